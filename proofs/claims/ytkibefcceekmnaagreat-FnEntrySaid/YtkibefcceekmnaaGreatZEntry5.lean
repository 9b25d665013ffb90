/- The law: an entry's encoding is read back, also from a disk. -/
import Derived.Test.YtkibefcceekmnaaGreatZEntry4
set_option linter.unusedVariables false
set_option linter.unusedSimpArgs false
set_option maxRecDepth 100000
set_option maxHeartbeats 4000000
namespace Go.M
open Go.AV
theorem BG7 {g : TGroup} {r : E8} (h : (N5 g r).2 = true) : GG g ∧ 1 ≤ (repAt g g.Lead).Log.length + 1 ∧ goodRec r = true ∧ isUp g g.Lead true = true := by
  unfold N5 at h
  split at h
  · rename_i hc
    rw [Bool.and_eq_true] at hc
    have := Y8.1 hc.1.1
    exact ⟨this.1, by omega, hc.1.2, U9.2 ⟨this.1, ⟨this.2.1, this.2.2.1⟩, this.2.2.2⟩⟩
  · cases h
theorem ent_good {t : Int} {r : E8} (ht : 1 ≤ t ∧ t ≤ 200) (hr : goodRec r = true) : L8 ⟨t, r⟩ = true := by
  unfold L8 within
  rw [decide_eq_true ht.1, decide_eq_true ht.2, hr]; rfl
theorem crash_do {g : TGroup} {r : Int} (hg : GG g) (ht : 0 ≤ g.Lead → 1 ≤ g.Term) (h : isUp g r true = true) : AZ7 g (crashR g r).1 := by
  have e : E5 g ⟨1, r, V2⟩ = crashR g r := rfl
  have := BA3 (a := ⟨1, r, V2⟩) hg ht (by rw [e]; unfold crashR; rw [if_pos h])
  rw [e] at this
  exact this
def AL7 (s : Str) (k : Nat) (torn : Bool) : Str := if (torn && decide ((0 : Int) < (k : Int))) = true then s.set (k - 1) (UInt8.ofNat (255 - ((s[k - 1]?).getD 0).toNat)) else s
def m4 (d : G6) (keep : Int) (torn : Bool) : G6 × Bool := if (!goodDisk d || !within keep 0 d.Loose.length) = true then (T9, false) else (⟨d.Kept ++ AL7 (d.Loose.take keep.toNat) keep.toNat torn, []⟩, true)
theorem AR9 (d : G6) (keep : Int) (torn : Bool) : (m4 d keep torn).1.size ≤ d.size := by
  unfold m4
  split
  · exact Nat.zero_le _
  · show (d.Kept ++ _).length + 0 ≤ d.Kept.length + d.Loose.length
    rw [D5]
    unfold AL7
    split
    · rw [List.length_set, H2]; omega
    · rw [H2]; omega
end Go.M
namespace Go.Proofs.YtkibefcceekmnaaGreat
open Go Go.AV Go.M
attribute [local irreducible] OpW OpA OpS AWP C0 I0 D7 OpE RetOk G3 H5 Le Ev F6 J1 Int.tmod Int.tdiv IntKind.wrap
theorem t3 (d : G6) (keep : Int) (torn : Bool) (hd : d.size ≤ 1048576) : C0 Tryz.prog 124 [AV.agg d.cs, AV.int keep, AV.bool torn] (AV.tup [AV.agg (m4 d keep torn).1.cs, AV.bool (m4 d keep torn).2]) := by
 have hd2 : d.Kept.length + d.Loose.length ≤ 1048576 := hd
 refine B3 Tryz.func124 rfl Tryz.ntmps124 rfl ?_
 refine R3 ?_
 intro b3
 refine R1 ?_
 intro b6
 refine R6 ?_
 refine A2 rfl (A8 rfl Tryz.call56 rfl (W4 d hd) (A1 (A0 rfl) A3)) ?_
 refine R6 ?_
 refine L0 rfl (fun hc => A8 rfl Tryz.call18 rfl (M0 _ _ _) (A1 (B0 rfl hc) (A1 D6 (A1 (B0 rfl hc) A3)))) ?_
 refine R3 ?_
 refine A6 (A0 rfl) ?_ ?_
 ·intro h19
  rw [show m4 d keep torn = (T9, false) from if_pos h19]
  refine R7 ?_
  exact L3 rfl B5 (A7 (C4 (ys := _) 0 rfl rfl I1 B9 rfl) (A7 (A4 rfl B1) D0))
 intro h19
 rw [show m4 d keep torn = (⟨d.Kept ++ AL7 (d.Loose.take keep.toNat) keep.toNat torn, []⟩, true) from if_neg (by rw [h19]; exact Bool.false_ne_true)]
 obtain ⟨k, rfl⟩ : ∃ k : Nat, keep = (k : Int) := ⟨keep.toNat, by (simp only [Bool.or_eq_false_iff, Bool.not_eq_false'] at h19; have h9 := h19.2; unfold within at h9; simp at h9; omega)⟩
 have hkl : k ≤ d.Loose.length := (by (simp only [Bool.or_eq_false_iff, Bool.not_eq_false'] at h19; have h9 := h19.2; unfold within at h9; simp at h9; omega))
 refine R6 ?_
 refine A2 rfl (a8 rfl C3 (A0 rfl) (A0 rfl) qz1 qz1) ?_
 obtain ⟨s, hs⟩ : ∃ s, d.Loose.take (k : Int).toNat = s := ⟨_, rfl⟩
 rw [hs]
 have hsl : s.length = k := by (rw [← hs, Int.toNat_natCast, H2]; omega)
 refine BL1 rfl rfl rfl rfl C3 H1 H3 (A0 rfl) ?_
 intro bz capz hcapz
 refine R11 ?_
 refine A6 (A0 rfl) ?_ ?_
 ·intro h30
  have hk0 : 0 < k := (by simp only [Bool.and_eq_true, decide_eq_true_eq] at h30; omega)
  obtain ⟨y, hy⟩ := E7 (show k - 1 < s.length by omega)
  have hkn : ((k : Int) - 1).toNat = k - 1 := by omega
  have hbl := BG6 hcapz
  have hfb : AL7 s (k : Int).toNat torn = s.set (k - 1) (UInt8.ofNat (255 - y.toNat)) := (by unfold AL7; rw [Int.toNat_natCast, if_pos h30, hy]; rfl)
  rw [hfb]
  refine R7 ?_
  refine A2 rfl (w_fidx rfl H1 f0 (A0 rfl) (A0 rfl) qz5 qz5) ?_
  refine A2 rfl (w_fload1 0 rfl (A0 rfl) rfl Tryz.isAgg5 (by rw [hkn]; exact BG4 hy)) ?_
  refine A2 rfl (w_sub rfl D6 (A0 rfl)) ?_
  refine A2 rfl (w_fidx rfl H1 f0 (A0 rfl) (A0 rfl) qz5 qz5) ?_
  refine BG3 (x := AV.byte (UInt8.ofNat (255 - y.toNat))) 0 rfl rfl rfl (A0 rfl) (by refine (congrArg (fun z => Ev _ _ (AV.ik .u8 z)) (byte_sub (y := y))).mp ?_; exact A0 rfl) (fun R v h => by rw [show v = _ from h]; rfl) rfl f0 (by rw [hbl]; omega) ?_
  rw [hkn]
  refine R6 ?_
  refine A2 rfl (qz47) ?_
  refine A2 rfl (J7 rfl (A0 rfl) (A0 rfl) (by first | omega | (rw [List.length_set]; omega))) ?_
  refine R5 ?_
  exact L3 rfl B5 (A7 (C4 (ys := _) 1 rfl rfl I1 B9 rfl) (A7 (A4 rfl B1) D0))
 intro h30
 have hfb : AL7 s (k : Int).toNat torn = s := (by unfold AL7; rw [Int.toNat_natCast, if_neg (by rw [h30]; exact Bool.false_ne_true)])
 rw [hfb]
 refine R6 ?_
 refine A2 rfl (qz47) ?_
 refine A2 rfl (J7 rfl (A0 rfl) (A0 rfl) (by first | omega | (rw [List.length_set]; omega))) ?_
 refine R5 ?_
 exact L3 rfl B5 (A7 (C4 (ys := _) 1 rfl rfl I1 B9 rfl) (A7 (A4 rfl B1) D0))
theorem An6 (h : THouse) (r : E8) (keep : Int) (torn : Bool) (hh : HI h) (hr : r.size ≤ 1000) : D7 Tryz.prog 93 [AV.agg h.cs, AV.agg r.cs, AV.int keep, AV.bool torn] [] (fun x : THouse × Bool => M7 h x) (fun _ => []) (fun x => AV.tup [AV.agg x.1.cs, AV.bool x.2]) := by
 have hz := Ah0 hh
 have hl5 : h.Disks.length ≤ 5 := by have h1 := hh.gg.many; have h2 := hh.len; omega
 refine D1 Tryz.func93 rfl Tryz.ntmps93 rfl ?_
 refine R3 ?_
 intro b4
 refine R1 ?_
 intro b5
 refine R1 ?_
 intro b8
 refine R6 ?_
 refine B6 [] rfl rfl rfl rfl Tryz.call87 rfl (AH2 h qz5 hh.disks qz5) (A1 (A0 rfl) A3) rfl ?_
 intro x18 ok18
 refine R2 ?_
 refine A6 (A0 rfl) ?_ ?_
 ·intro h19
  have hfa : M7 h (P1, false) := (fun e => by cases e)
  refine R7 ?_
  refine K4 0 0 3 rfl rfl H8 ?_
  refine K4 0 3 2 rfl rfl H8 ?_
  (refine E4 [] ((P1, false)) ?_ rfl qz7 (J4 rfl B5 (A7 (C4 (ys := _) 0 rfl rfl F4 D9 Ae9) (A7 (A4 rfl B1) D0))); first | exact hfa | exact fun _ => ⟨W6 hh hdo qz5, hdo.len⟩)
 intro h19
 have hds9 := (ok18.2 (by simpa using h19)).2.2
 refine R5 ?_
 refine A2 rfl (U7 _ 2 rfl (A0 rfl) rfl G0 F8 rfl rfl) ?_
 refine R1 ?_
 refine A2 rfl (A8 rfl Tryz.call119 rfl (An4 h.Group r qz5 hr) (A1 (A0 rfl) (A1 (A0 rfl) A3))) ?_
 refine R4 ?_
 intro b10
 refine R8 ?_
 refine A6 (A0 rfl) ?_ ?_
 ·intro h29
  have hfa : M7 h (P1, false) := (fun e => by cases e)
  refine R7 ?_
  refine K4 1 0 3 rfl rfl H8 ?_
  refine K4 1 3 2 rfl rfl H8 ?_
  (refine E4 [] ((P1, false)) ?_ rfl qz7 (J4 rfl B5 (A7 (C4 (ys := _) 1 rfl rfl F4 D9 Ae9) (A7 (A4 rfl B1) D0))); first | exact hfa | exact fun _ => ⟨W6 hh hdo qz5, hdo.len⟩)
 intro h29
 have hok : (N5 h.Group r).2 = true := (by simpa using h29)
 have hled := AD1 hok
 obtain ⟨hgg, _, hgr, hup⟩ := BG7 hok
 have htm := hh.term hled.1
 have htm2 := hgg.term
 have hge := ent_good ⟨htm, htm2.2⟩ hgr
 have hel := m7 hge
 have hn5 := Q9 (n := (entB ⟨h.Group.Term, r⟩).length) qz5
 have hfl := Q4 (entB ⟨h.Group.Term, r⟩)
 have hln := hh.len
 obtain ⟨d, hd⟩ := E7 (show h.Group.Lead.toNat < h.Disks.length by omega)
 have hdk : d.Kept.length + d.Loose.length ≤ 50000 := hds9 d (C6 hd)
 have hdo := crash_do hgg hh.term hup
 refine R8 ?_
 refine A2 rfl (A8 rfl Tryz.call20 rfl (s9 ⟨h.Group.Term, r⟩ hge (by show r.size ≤ _; omega)) (A1 (A0 rfl) A3)) ?_
 refine A2 rfl (A8 rfl Tryz.call55 rfl (r4 (entB ⟨h.Group.Term, r⟩) qz5) (A1 (A0 rfl) A3)) ?_
 refine R8 ?_
 refine A2 rfl (A8 rfl Tryz.call18 rfl (M0 _ _ _) (A1 (A0 rfl) (A1 D6 (A1 (A0 rfl) A3)))) ?_
 refine R2 ?_
 refine A6 (A0 rfl) ?_ ?_
 ·intro h42
  have hfa : M7 h (P1, false) := (fun e => by cases e)
  refine R7 ?_
  refine K4 1 0 3 rfl rfl H8 ?_
  refine K4 1 3 2 rfl rfl H8 ?_
  (refine E4 [] ((P1, false)) ?_ rfl qz7 (J4 rfl B5 (A7 (C4 (ys := _) 1 rfl rfl F4 D9 Ae9) (A7 (A4 rfl B1) D0))); first | exact hfa | exact fun _ => ⟨W6 hh hdo qz5, hdo.len⟩)
 intro h42
 refine R11 ?_
 refine A2 rfl (U7 _ 3 rfl (A0 rfl) rfl G0 F8 rfl rfl) ?_
 refine R1 ?_
 refine A2 rfl (A8 rfl Tryz.call116 rfl (An2 h.Group h.Group.Lead qz5) (A1 (A0 rfl) (A1 (A0 rfl) A3))) ?_
 refine R4 ?_
 intro b14
 refine R4 ?_
 refine X6 _ 7 (.pure 0 (.pure 2 (.pure 3 (.e2 1 (.e2 4 (.pure 5 (.e1 6 .nil)) 6 (.e1 4 (.pure 5 .nil))) 6 (.e1 1 (.e1 4 (.pure 5 .nil))))))) F9 F9 rfl AE7 ?_
 refine R3 ?_
 refine u9 ?_ ?_
 ·refine I7 rfl rfl rfl (y6 rfl D2 B9) (fun a _ => qz2) ?_
  intro v55 _
  refine u9 ?_ ?_
  ·refine I7 rfl rfl rfl (j5 5 (fun _ => rfl) (T1 (by' := 32) 5 rfl D2 Tryz.type34 rfl rfl rfl rfl rfl rfl (A0 rfl) (A0 rfl) rfl qz1)) (fun a _ => qz2) ?_
   intro v58_1 hone_v58_1
   have one_v58_1 := hone_v58_1.2
   refine L5 rfl rfl rfl (fun ext => U1 (places := #[(0, 3), (3, 1)]) rfl L7 Tryz.zeroValue57 (fun w => by kernel_rfl) rfl (E1 (A0 rfl) (J3 _) (E1 (A0 rfl) (P2 one_v58_1) O8)) rfl) ?_
   refine R1 ?_
   refine I7 rfl rfl rfl (X5 rfl Tryz.zeroValue57 rfl) (fun a _ => qz2) ?_
   intro b16 _
   refine R4 ?_
   have h74 : (m4 ⟨d.Kept, frameB (entB ⟨h.Group.Term, r⟩)⟩ keep torn).1.size ≤ d.Kept.length + (frameB (entB ⟨h.Group.Term, r⟩)).length := AR9 _ _ _
   refine s5 qz21 ?_
   refine AWP.le (H6 [6, 0, 0, 0, 0, 0] rfl) ?_
   refine N7 _ 19 (.pure 0 (.pure 1 (.pure 2 (.pure 3 (.pure 4 (.pure 5 (.pure 6 (.pure 7 (.pure 8 (.pure 9 (.pure 10 (.pure 11 (.pure 12 (.pure 13 (.pure 14 (.pure 15 (.pure 16 (.e1 17 (.e1 18 .nil))))))))))))))))))) F9 F9 rfl (X4 6) ?_
   refine R6 ?_
   refine L5 rfl rfl rfl (fun ext => F1 rfl D2 B9 (A0 rfl) (A0 rfl) hd qz5) ?_
   refine R6 ?_
   refine L5 rfl rfl rfl (fun ext => A8 rfl Tryz.call124 rfl (t3 ⟨d.Kept, frameB (entB ⟨h.Group.Term, r⟩)⟩ keep torn qz42) (A1 (A0 rfl) (A1 (A0 rfl) (A1 (A0 rfl) A3)))) ?_
   refine R4 ?_
   refine I7 rfl rfl rfl (S6 (K7 6 rfl D2 B9 (A0 rfl) rfl (A0 rfl) qz5 qz60)) (fun a _ => qz2) ?_
   intro _ _
   refine R1 ?_
   refine X7 rfl rfl rfl (AK3 6 rfl rfl (A0 rfl) (A0 rfl) (J3 _) rfl B9 rfl qz1) (fun a _ => qz2) ?_
   intro _ _
   refine R3 ?_
   refine AWP.le (M9 [6] 0 (.box b16 57 [_, _, _, _]) rfl rfl ⟨rfl, rfl, (B2 C8 (B2 C8 (B2 C8 (B2 (G5 (C6 (i := 0) rfl) E3) J8))))⟩ H8) ?_
   refine R6 ?_
   (refine E4 [] ((⟨(crashR h.Group h.Group.Lead).1, h.Disks.set h.Group.Lead.toNat (m4 ⟨d.Kept, frameB (entB ⟨h.Group.Term, r⟩)⟩ keep torn).1⟩, true)) ?_ rfl qz7 (J4 rfl B5 (A7 (C4 (ys := _) 3 rfl rfl F4 D9 Ae9) (A7 (A4 rfl B1) D0))); first | exact hfa | exact fun _ => ⟨W6 hh hdo qz5, hdo.len⟩)
  refine I7 rfl rfl rfl (X5 rfl Tryz.zeroValue57 rfl) (fun a _ => qz2) ?_
  intro b16 _
  refine R1 ?_
  refine I7 rfl rfl rfl (j5 5 (fun _ => rfl) (T1 (by' := 32) 5 rfl D2 Tryz.type34 rfl rfl rfl rfl rfl rfl (A0 rfl) (A0 rfl) rfl qz1)) (fun a _ => qz2) ?_
  intro v58_2 hone_v58_2
  have one_v58_2 := hone_v58_2.2
  refine L5 rfl rfl rfl (fun ext => U1 (places := #[(0, 3), (3, 1)]) rfl L7 Tryz.zeroValue57 (fun w => by kernel_rfl) rfl (E1 (A0 rfl) (J3 _) (E1 (A0 rfl) (P2 one_v58_2) O8)) rfl) ?_
  refine R4 ?_
  have h74 : (m4 ⟨d.Kept, frameB (entB ⟨h.Group.Term, r⟩)⟩ keep torn).1.size ≤ d.Kept.length + (frameB (entB ⟨h.Group.Term, r⟩)).length := AR9 _ _ _
  refine s5 qz21 ?_
  refine AWP.le (H6 [6, 0, 0, 0, 0, 0] rfl) ?_
  refine N7 _ 19 (.pure 0 (.pure 1 (.pure 2 (.pure 3 (.pure 4 (.pure 5 (.pure 6 (.pure 7 (.pure 8 (.pure 9 (.pure 10 (.pure 11 (.pure 12 (.pure 13 (.pure 14 (.pure 15 (.pure 16 (.e1 17 (.e1 18 .nil))))))))))))))))))) F9 F9 rfl (X4 6) ?_
  refine R6 ?_
  refine L5 rfl rfl rfl (fun ext => F1 rfl D2 B9 (A0 rfl) (A0 rfl) hd qz5) ?_
  refine R6 ?_
  refine L5 rfl rfl rfl (fun ext => A8 rfl Tryz.call124 rfl (t3 ⟨d.Kept, frameB (entB ⟨h.Group.Term, r⟩)⟩ keep torn qz42) (A1 (A0 rfl) (A1 (A0 rfl) (A1 (A0 rfl) A3)))) ?_
  refine R4 ?_
  refine I7 rfl rfl rfl (S6 (K7 6 rfl D2 B9 (A0 rfl) rfl (A0 rfl) qz5 qz60)) (fun a _ => qz2) ?_
  intro _ _
  refine R1 ?_
  refine X7 rfl rfl rfl (AK3 6 rfl rfl (A0 rfl) (A0 rfl) (J3 _) rfl B9 rfl qz1) (fun a _ => qz2) ?_
  intro _ _
  refine R3 ?_
  refine AWP.le (M9 [6] 0 (.box b16 57 [_, _, _, _]) rfl rfl ⟨rfl, rfl, (B2 C8 (B2 C8 (B2 C8 (B2 (G5 (C6 (i := 0) rfl) E3) J8))))⟩ H8) ?_
  refine R6 ?_
  (refine E4 [] ((⟨(crashR h.Group h.Group.Lead).1, h.Disks.set h.Group.Lead.toNat (m4 ⟨d.Kept, frameB (entB ⟨h.Group.Term, r⟩)⟩ keep torn).1⟩, true)) ?_ rfl qz7 (J4 rfl B5 (A7 (C4 (ys := _) 3 rfl rfl F4 D9 Ae9) (A7 (A4 rfl B1) D0))); first | exact hfa | exact fun _ => ⟨W6 hh hdo qz5, hdo.len⟩)
 refine I7 rfl rfl rfl (X5 rfl Tryz.zeroValue57 rfl) (fun a _ => qz2) ?_
 intro b16 _
 refine R1 ?_
 refine I7 rfl rfl rfl (y6 rfl D2 B9) (fun a _ => qz2) ?_
 intro v55 _
 refine R1 ?_
 refine I7 rfl rfl rfl (j5 6 (fun _ => rfl) (T1 (by' := 32) 6 rfl D2 Tryz.type34 rfl rfl rfl rfl rfl rfl (A0 rfl) (A0 rfl) rfl qz1)) (fun a _ => qz2) ?_
 intro v58_3 hone_v58_3
 have one_v58_3 := hone_v58_3.2
 refine L5 rfl rfl rfl (fun ext => U1 (places := #[(0, 3), (3, 1)]) rfl L7 Tryz.zeroValue57 (fun w => by kernel_rfl) rfl (E1 (A0 rfl) (J3 _) (E1 (A0 rfl) (P2 one_v58_3) O8)) rfl) ?_
 refine R4 ?_
 have h74 : (m4 ⟨d.Kept, frameB (entB ⟨h.Group.Term, r⟩)⟩ keep torn).1.size ≤ d.Kept.length + (frameB (entB ⟨h.Group.Term, r⟩)).length := AR9 _ _ _
 refine s5 qz21 ?_
 refine AWP.le (H6 [5, 0, 0, 0, 0, 0] rfl) ?_
 refine N7 _ 19 (.pure 0 (.pure 1 (.pure 2 (.pure 3 (.pure 4 (.pure 5 (.pure 6 (.pure 7 (.pure 8 (.pure 9 (.pure 10 (.pure 11 (.pure 12 (.pure 13 (.pure 14 (.pure 15 (.pure 16 (.e1 17 (.e1 18 .nil))))))))))))))))))) F9 F9 rfl (X4 6) ?_
 refine R6 ?_
 refine L5 rfl rfl rfl (fun ext => F1 rfl D2 B9 (A0 rfl) (A0 rfl) hd qz5) ?_
 refine R6 ?_
 refine L5 rfl rfl rfl (fun ext => A8 rfl Tryz.call124 rfl (t3 ⟨d.Kept, frameB (entB ⟨h.Group.Term, r⟩)⟩ keep torn qz42) (A1 (A0 rfl) (A1 (A0 rfl) (A1 (A0 rfl) A3)))) ?_
 refine R4 ?_
 refine I7 rfl rfl rfl (S6 (K7 6 rfl D2 B9 (A0 rfl) rfl (A0 rfl) qz5 qz60)) (fun a _ => qz2) ?_
 intro _ _
 refine R1 ?_
 refine X7 rfl rfl rfl (AK3 6 rfl rfl (A0 rfl) (A0 rfl) (J3 _) rfl B9 rfl qz1) (fun a _ => qz2) ?_
 intro _ _
 refine R3 ?_
 refine AWP.le (M9 [6] 0 (.box b16 57 [_, _, _, _]) rfl rfl ⟨rfl, rfl, (B2 C8 (B2 C8 (B2 C8 (B2 (G5 (C6 (i := 0) rfl) E3) J8))))⟩ H8) ?_
 refine R6 ?_
 (refine E4 [] ((⟨(crashR h.Group h.Group.Lead).1, h.Disks.set h.Group.Lead.toNat (m4 ⟨d.Kept, frameB (entB ⟨h.Group.Term, r⟩)⟩ keep torn).1⟩, true)) ?_ rfl qz7 (J4 rfl B5 (A7 (C4 (ys := _) 3 rfl rfl F4 D9 Ae9) (A7 (A4 rfl B1) D0))); first | exact hfa | exact fun _ => ⟨W6 hh hdo qz5, hdo.len⟩)
theorem Ax9 (g : TGroup) (hs : g.size ≤ 1048576) : C0 Tryz.prog 123 [AV.agg g.cs] (AV.agg g.cs) := O1 (o4 g hs) fun v _ => TGroup.fl g v
theorem BG8 (h : THouse) (hs : h.Group.size ≤ 1048576) (hd : h.Disks.length ≤ 1048576) : D7 Tryz.prog 92 [AV.agg h.cs] [] (fun _ : Value => True) (fun v => [.arr v 34 2 (h.Disks.map G6.cs)]) (fun v => AV.agg [AV.list 3 (h.Group.Reps.map C1.cs), AV.int h.Group.Term, AV.int h.Group.Lead, AV.is v]) := by
 refine D1 Tryz.func92 rfl Tryz.ntmps92 rfl ?_
 refine R3 ?_
 intro b1
 refine R1 ?_
 intro b2
 refine R2 ?_
 refine Z4 _ [(0, false), (1, false), (2, false), (4, false), (5, false), (3, true), (6, true)] F9 F9 rfl AE7 ?_
 refine R1 ?_
 refine U8 rfl rfl rfl (fun ext => U7 _ 1 rfl (A0 rfl) rfl G0 F8 rfl rfl) ?_
 refine U8 rfl rfl rfl (fun ext => A8 rfl Tryz.call123 rfl (Ax9 h.Group hs) (A1 (A0 rfl) A3)) ?_
 refine R2 ?_
 refine g8 rfl rfl rfl (y6 rfl D2 B9) (fun a _ => qz2) ?_
 intro v6 _
 refine g8 rfl rfl rfl (j5 2 (fun _ => rfl) (T1 (by' := 32) 2 rfl D2 Tryz.type34 rfl rfl rfl rfl rfl rfl (A0 rfl) (A0 rfl) rfl qz1)) (fun a _ => qz2) ?_
 intro v9_1 hone_v9_1
 have one_v9_1 := hone_v9_1.2
 refine R1 ?_
 refine A2 rfl (U1 (places := #[(0, 3), (3, 1)]) rfl L7 Tryz.zeroValue57 (fun w => by kernel_rfl) rfl (E1 (A0 rfl) (J3 _) (E1 (A0 rfl) (P2 one_v9_1) O8)) rfl) ?_
 refine R3 ?_
 exact E4 [2] v9_1 (trivial) rfl B1 (H4 rfl (C4 (ys := _) 0 rfl rfl F4 D9 rfl))
theorem Ay0 (h : THouse) (hs : h.Group.size ≤ 1048576) (hd : h.Disks.length ≤ 1048576) : C0 Tryz.prog 92 [AV.agg h.cs] (AV.agg h.cs) :=
  O1 (BG8 h hs hd) fun v _ => c9 (B2 C8 (B2 C8 (B2 C8 (B2 (G5 (List.mem_singleton.2 rfl) E3) J8))))
theorem m2 (h : THouse) (acts : List M1) (hh : HI h) (hb : AU6 h) (hl : acts.length ≤ 100) (ha : ∀ a ∈ acts, a.Rec.size ≤ 1000) : D7 Tryz.prog 52 [AV.agg h.cs, AV.list 11 (acts.map M1.cs)] [] (fun x : THouse × Bool => HI x.1 ∧ x.1.Group.Reps.length = h.Group.Reps.length) (fun _ => []) (fun x => AV.tup [AV.agg x.1.cs, AV.bool x.2]) := by
 have hz := Ah0 hh
 have hl5 : h.Disks.length ≤ 5 := by have h1 := hh.gg.many; have h2 := hh.len; omega
 refine D1 Tryz.func52 rfl Tryz.ntmps52 rfl ?_
 refine R3 ?_
 intro b2
 refine R1 ?_
 intro b4
 refine R6 ?_
 refine B6 [] rfl rfl rfl rfl Tryz.call87 rfl (AH2 h qz5 hh.disks qz5) (A1 (A0 rfl) A3) rfl ?_
 intro x12 ok12
 refine R7 ?_
 refine A6 (A0 rfl) ?_ ?_
 ·intro h18
  exfalso; rw [ok12.1 hb] at h18; simp at h18; omega
 intro h18
 refine R4 ?_
 refine A2 rfl (A8 rfl Tryz.call92 rfl (Ay0 h qz5 qz5) (A1 (A0 rfl) A3)) ?_
 refine R1 ?_
 intro b6
 refine R8 ?_
 refine AWP.le (H6 [0] rfl) ?_
 refine S8 [(1, _), (4, _), (5, _), (6, _)] _ (fun (i : Nat) (q : THouse) => i ≤ acts.length ∧ HI q ∧ q.Group.Reps.length = h.Group.Reps.length) (fun (i : Nat) (q : THouse) => [.box b6 57 q.cs]) (fun (i : Nat) (q : THouse) => [(7, AV.int i)]) (fun (i : Nat) (q : THouse) => acts.length - i) (0) (h) ?_ (J5 B1 ⟨rfl, rfl, rfl, rfl, rfl, trivial⟩) ?_
 ·exact ⟨Nat.zero_le _, hh, rfl⟩
 intro i q hinv
 refine R8 ?_
 refine A6 (A0 rfl) ?_ ?_
 ·intro h25
  have k25 := of_decide_eq_true h25; try simp only [A5] at k25
  have hlt : i < acts.length := (by simpa using h25)
  obtain ⟨a, hx⟩ := E7 hlt
  have har := ha a (C6 hx)
  refine R7 ?_
  refine A2 rfl (F1 rfl Tryz.underlying89 Tryz.sizeOf120 (A0 rfl) (A0 rfl) hx qz1) ?_
  refine R2 ?_
  intro b8
  refine R10 ?_
  refine A2 rfl (U7 _ 0 rfl (A0 rfl) rfl I2 G9 rfl rfl) ?_
  refine R1 ?_
  refine B6 [] rfl rfl rfl rfl Tryz.call51 rfl (AD6 q ⟨a.Kind, a.Rep, a.Rec⟩ hinv.2.1 har) (A1 (A0 rfl) (A1 (A0 rfl) A3)) rfl ?_
  intro x41 ok41
  refine R4 ?_
  intro b9
  refine R10 ?_
  refine A6 (A0 rfl) ?_ ?_
  ·intro h46
   have k46 := F3 h46; try simp only [A5] at k46
   refine R3 ?_
   refine A2 rfl (U7 _ 1 rfl (A0 rfl) rfl I2 G9 rfl rfl) ?_
   refine R4 ?_
   refine B6 [] rfl rfl rfl rfl Tryz.call93 rfl (An6 q a.Rec a.Keep a.Torn hinv.2.1 har) (A1 (A0 rfl) (A1 (A0 rfl) (A1 (A0 rfl) (A1 (A0 rfl) A3)))) rfl ?_
   intro x55 ok55
   refine R10 ?_
   refine A6 (A0 rfl) ?_ ?_
   ·intro h58
    refine R9 ?_
    refine N3 i q (i + 1) (x55.1) ?_ ?_ (Le.trans (H6 [0, 0, 0] rfl) (T5 2 B1 ⟨rfl, rfl, rfl, rfl, rfl, trivial⟩))
    ·exact ⟨by omega, (ok55 h58).1, (ok55 h58).2.trans hinv.2.2⟩
    omega
   intro h58
   refine R6 ?_
   refine N3 i q (i + 1) (q) ?_ ?_ (Le.trans (H6 [0, 0, 0] rfl) (T5 2 B1 ⟨rfl, rfl, rfl, rfl, rfl, trivial⟩))
   ·exact ⟨by omega, hinv.2⟩
   omega
  intro h46
  have k46 := F2 h46; try simp only [A5] at k46
  refine R5 ?_
  refine A6 (A0 rfl) ?_ ?_
  ·intro h58
   refine R9 ?_
   refine N3 i q (i + 1) (x41.1) ?_ ?_ (Le.trans (H6 [0, 0, 0] rfl) (T5 2 B1 ⟨rfl, rfl, rfl, rfl, rfl, trivial⟩))
   ·exact ⟨by omega, (ok41.1 h58).1, (ok41.1 h58).2.trans hinv.2.2⟩
   omega
  intro h58
  refine R6 ?_
  refine N3 i q (i + 1) (q) ?_ ?_ (Le.trans (H6 [0, 0, 0] rfl) (T5 2 B1 ⟨rfl, rfl, rfl, rfl, rfl, trivial⟩))
  ·exact ⟨by omega, hinv.2⟩
  omega
 intro h25
 have k25 := of_decide_eq_false h25; try simp only [A5] at k25
 refine R8 ?_
 (refine E4 [] ((q, true)) ?_ rfl qz7 (J4 rfl B5 (A7 (C4 (ys := _) 1 rfl rfl F4 D9 rfl) (A7 (A4 rfl B1) D0))); exact hinv.2)
end Go.Proofs.YtkibefcceekmnaaGreat
namespace Go.Proofs.YtkibefcceekmnaaGreat
open Go Go.AV Go.M
attribute [local irreducible] OpW OpA OpS AWP C0 I0 D7 OpE RetOk G3 H5 Le Ev F6 J1 Ah5 Int.tmod Int.tdiv IntKind.wrap bandI
end Go.Proofs.YtkibefcceekmnaaGreat
namespace Go.M
open Go.AV
structure SB (m : Int) (s : Q5) : Prop where
  floor : 0 ≤ s.Floor ∧ s.Floor ≤ m
  leads : ∀ h ∈ s.Held, 0 ≤ h.Lead ∧ h.Lead ≤ 3
end Go.M
namespace Go.Proofs.YtkibefcceekmnaaGreat
open Go Go.AV Go.M
attribute [local irreducible] OpW OpA OpS AWP C0 I0 D7 OpE RetOk G3 H5 Le Ev F6 J1 Ah5 Int.tmod Int.tdiv IntKind.wrap bandI
theorem AW8 (b : Nat) (code : List Int) (hcode : Q6 code) (c : J6) (hp : c.p ≤ 2000000) : D7 Tryz.prog 36 [AV.ptr b 0] [.box b 47 (L6 code c)] (fun x : J6 × E8 => x.1.p ≤ c.p + 100 ∧ x.2.size ≤ 1000 ∧ 0 ≤ x.2.Lead ∧ x.2.Lead ≤ 3 ∧ 0 ≤ x.2.Time ∧ x.2.Time ≤ 100001) (fun x => [.box b 47 (L6 code x.1)]) (fun x => AV.agg x.2.cs) :=
  v1 (fun x => (x.1, x.2.1)) (fun x => E8.ow x.2.1 x.2.2) (fun x => [.box b 47 (L6 code x.1)]) (Ad6 b code hcode c hp) (fun _ h => h) (fun x _ => c9 (E8.lc _ _)) (fun x _ => List.perm_append_comm (l₁ := [_])) (fun _ _ => s6 0 rfl rfl H8) (fun x _ => AT2 ⟨rfl, rfl, d9⟩ Ab0)
theorem Ah2 (b : Nat) (code : List Int) (hcode : Q6 code) (c : J6) (hp : c.p ≤ 1000000) : D7 Tryz.prog 38 [AV.ptr b 0] [.box b 47 (L6 code c)] (fun x : J6 × E8 => x.1.p ≤ c.p + 120 ∧ x.2.size ≤ 1002 ∧ 0 ≤ x.2.Lead ∧ x.2.Lead ≤ 3 ∧ 0 ≤ x.2.Time ∧ x.2.Time ≤ 100001) (fun x => [.box b 47 (L6 code x.1)]) (fun x => AV.agg x.2.cs) :=
  v1 (fun x => (x.1, x.2.1)) (fun x => E8.ow x.2.1 x.2.2) (fun x => [.box b 47 (L6 code x.1)]) (Am9 b code hcode c hp) (fun _ h => h) (fun x _ => c9 (E8.lc _ _)) (fun x _ => List.perm_append_comm (l₁ := [_])) (fun _ _ => s6 0 rfl rfl H8) (fun x _ => AT2 ⟨rfl, rfl, d9⟩ Ab0)
end Go.Proofs.YtkibefcceekmnaaGreat
namespace Go.Proofs.YtkibefcceekmnaaGreat
open Go Go.AV Go.M
attribute [local irreducible] OpW OpA OpS AWP C0 I0 D7 OpE RetOk G3 H5 Le Ev F6 J1 Int.tmod Int.tdiv IntKind.wrap bandI
theorem At8 (b : Nat) (code : List Int) (hcode : Q6 code) (c : J6) (hp : c.p ≤ 500000) : D7 Tryz.prog 14 [AV.ptr b 0] [.box b 47 (L6 code c)] (fun x : J6 × B8 => x.1.p ≤ c.p + 300 ∧ x.2.size ≤ 1002) (fun x => [.box b 47 (L6 code x.1)]) (fun x => AV.agg x.2.cs) := by
 refine D1 Tryz.func14 rfl Tryz.ntmps14 rfl ?_
 refine R3 ?_
 intro b2
 refine R5 ?_
 refine B6 [1] rfl rfl rfl rfl Tryz.call35 rfl (i4 _ _ hcode _ ([(1), (2), (127), (128), (200), (0), (201)] : List Int) B5 qz5) (A1 (A0 rfl) (A1 (A0 rfl) A3)) rfl ?_
 intro x6 ok6
 refine R1 ?_
 refine B6 [0] rfl rfl rfl rfl Tryz.call36 rfl (AW8 _ _ hcode _ qz5) (A1 (A0 rfl) A3) rfl ?_
 intro x8 ok8
 refine R2 ?_
 intro b3
 refine R6 ?_
 refine B6 [1] rfl rfl rfl rfl Tryz.call37 rfl (q9 _ _ hcode _ _ qz5 qz5) (A1 (A0 rfl) (A1 D6 A3)) rfl ?_
 intro x11 ok11
 refine R1 ?_
 refine A6 (A0 rfl) ?_ ?_
 ·intro h11
  refine R2 ?_
  refine B6 [0] rfl rfl rfl rfl Tryz.call38 rfl (Ah2 _ _ hcode _ qz5) (A1 (A0 rfl) A3) rfl ?_
  intro x13 ok13
  refine R1 ?_
  refine AE2 1 rfl rfl rfl (A0 rfl) (A0 rfl) (J3 _) rfl G9 rfl ?_
  refine R7 ?_
  (refine E4 [0] ((x13.1, ⟨x6.2, x13.2⟩)) ?_ rfl qz7 (H4 rfl (C4 (ys := _) 2 rfl rfl Q0 G1 rfl)); first | exact ⟨by dsimp only; omega, ok13.2⟩ | exact ⟨by dsimp only; omega, by (dsimp only [B8.size]; omega)⟩)
 intro h11
 refine R7 ?_
 (refine E4 [0] ((x11.1, ⟨x6.2, x8.2⟩)) ?_ rfl qz7 (H4 rfl (C4 (ys := _) 2 rfl rfl Q0 G1 rfl)); first | exact ⟨by dsimp only; omega, ok13.2⟩ | exact ⟨by dsimp only; omega, by (dsimp only [B8.size]; omega)⟩)
theorem AS0 (code : List Int) (hcode : Q6 code) : D7 Tryz.prog 5 [AI6 code] [] (fun x : B8 => x.size ≤ 1002) (fun x => []) (fun x => AV.agg x.cs) := by
  refine D1 Tryz.func5 rfl Tryz.ntmps5 rfl ?_
  refine R3 ?_
  intro b2
  refine R6 ?_
  intro b6
  refine R5 ?_
  refine B6 [0] rfl rfl rfl rfl Tryz.call14 rfl (At8 _ _ hcode ⟨0, 0⟩ B5) (A1 (A0 rfl) A3) rfl ?_
  intro x8 ok8
  refine R3 ?_
  (refine E4 [] (x8.2) ?_ rfl qz7 (H4 rfl (C4 (ys := _) 1 rfl rfl Q0 G1 rfl)); exact ok8.2)
theorem Ay1 (b : Nat) (code : List Int) (hcode : Q6 code) (c : J6) (many most : Int) (hmm : many ≤ 5) (hm : 0 ≤ most ∧ most ≤ 30) (hp : c.p ≤ 1000000) : D7 Tryz.prog 53 [AV.ptr b 0, AV.int many, AV.int most] [.box b 47 (L6 code c)] (fun x : J6 × List M1 × Value => x.1.p ≤ c.p + 4000 ∧ x.2.1.length ≤ 31 ∧ ∀ a ∈ x.2.1, a.Rec.size ≤ 1000) (fun x => [.box b 47 (L6 code x.1), .arr x.2.2 120 11 (x.2.1.map M1.cs)]) (fun x => AV.is x.2.2) := by
 refine D1 Tryz.func53 rfl Tryz.ntmps53 rfl ?_
 refine R2 ?_
 refine A2 rfl (E2 rfl W5) ?_
 refine R3 ?_
 refine K8 rfl rfl rfl rfl Tryz.underlying89 Tryz.sizeOf120 ?_
 intro v11
 refine R7 ?_
 refine B6 [1] rfl rfl rfl rfl Tryz.call22 rfl (I5 _ _ hcode _ _ qz5 qz5) (A1 (A0 rfl) (A1 (A0 rfl) A3)) rfl ?_
 intro x15 ok15
 obtain ⟨n0, hn0⟩ : ∃ n0 : Nat, x15.2 = n0 := ⟨x15.2.toNat, by omega⟩
 refine R8 ?_
 refine AWP.le (H6 [0, 0] rfl) ?_
 refine T0 [(0, _), (1, _), (6, _), (8, _)] _ (fun (i : Nat) (cc : J6) (l : List M1) (v : Value) => i ≤ n0 ∧ l.length = i ∧ cc.p ≤ c.p + 2 + 110 * i ∧ ∀ a ∈ l, a.Rec.size ≤ 1000) (fun (i : Nat) (cc : J6) (l : List M1) (v : Value) => [.box b 47 (L6 code cc), .arr v 120 11 (l.map M1.cs)]) (fun (i : Nat) (cc : J6) (l : List M1) (v : Value) => [(7, AV.is v), (9, AV.int i)]) (fun (i : Nat) (cc : J6) (l : List M1) (v : Value) => n0 - i) (0) (x15.1) ([]) (v11) ?_ (J5 B1 ⟨rfl, rfl, rfl, rfl, rfl, rfl, trivial⟩) ?_
 ·exact ⟨Nat.zero_le _, rfl, by omega, fun a h => by cases h⟩
 intro i cc l v hinv
 refine R7 ?_
 refine A6 (A0 rfl) ?_ ?_
 ·intro h18
  have k18 := of_decide_eq_true h18; try simp only [A5] at k18
  have hlt : i < n0 := by omega
  have hll := hinv.2.1
  refine R6 ?_
  refine A2 rfl (m5 rfl Tryz.underlying76 Tryz.sizeOf3 Tryz.zeroValue3 rfl rfl rfl rfl (E1 D6 (Q3 _ _) (E1 D6 (Q3 _ _) (E1 D6 (Q3 _ _) (E1 D6 (Q3 _ _) (E1 D6 (Q3 _ _) (E1 D6 (Q3 _ _) (E1 D6 (Q3 _ _) (E1 D6 (Q3 _ _) (E1 D6 (Q3 _ _) (E1 D6 (Q3 _ _) (E1 D6 (Q3 _ _) O8))))))))))) rfl rfl) ?_
  refine B6 [0] rfl rfl rfl rfl Tryz.call35 rfl (i4 _ _ hcode _ ([(3), (4), (4), (5), (5), (6), (1), (2), (2), (3), (7)] : List Int) B5 qz5) (A1 (A0 rfl) (A1 (A0 rfl) A3)) rfl ?_
  intro x23 ok23
  refine R2 ?_
  refine B6 [0] rfl rfl rfl rfl Tryz.call22 rfl (I5 _ _ hcode _ _ qz5 qz5) (A1 (A0 rfl) (A1 (A0 rfl) A3)) rfl ?_
  intro x26 ok26
  refine R2 ?_
  intro b10
  refine R4 ?_
  refine AWP.le (Ab2 0 6 1 rfl rfl (s6 1 rfl rfl H8)) ?_
  refine AWP.le (Ab2 0 7 3 rfl rfl (s6 1 rfl rfl H8)) ?_
  refine R10 ?_
  refine A6 (A0 rfl) ?_ ?_
  ·intro h35
   refine R3 ?_
   refine B6 [1] rfl rfl rfl rfl Tryz.call36 rfl (AW8 _ _ hcode _ qz5) (A1 (A0 rfl) A3) rfl ?_
   intro x37 ok37
   refine R1 ?_
   refine AE2 1 rfl rfl rfl (A0 rfl) (A0 rfl) (J3 _) rfl G9 rfl ?_
   refine R4 ?_
   refine B6 [0] rfl rfl rfl rfl Tryz.call22 rfl (I5 _ _ hcode _ _ qz5 qz5) (A1 (A0 rfl) (A1 D6 A3)) rfl ?_
   intro x40 ok40
   refine R5 ?_
   refine B6 [0] rfl rfl rfl rfl Tryz.call37 rfl (q9 _ _ hcode _ _ qz5 qz5) (A1 (A0 rfl) (A1 D6 A3)) rfl ?_
   intro x43 ok43
   refine R7 ?_
   refine J0 (by' := 120) 2 rfl rfl rfl rfl Tryz.underlying89 Tryz.type120 rfl rfl rfl rfl rfl rfl (A0 rfl) (A0 rfl) rfl qz43 ?_
   intro v48_1
   refine R7 ?_
   refine Q1 i cc l v (i + 1) (x43.1) (l ++ [⟨x23.2, x26.2, x37.2, x40.2, x43.2⟩]) (v48_1) ?_ ?_ (Le.trans (H6 [1, 0, 0] rfl) (T5 1 qz65 ⟨rfl, rfl, rfl, rfl, rfl, rfl, trivial⟩))
   ·exact ⟨by omega, by rw [D5, hinv.2.1]; rfl, by omega, fun a ha => (List.mem_append.1 ha).elim (hinv.2.2.2 a) fun e => by (rw [List.mem_singleton.1 e]; exact ok37.2.1)⟩
   omega
  intro h35
  refine R5 ?_
  refine J0 (by' := 120) 2 rfl rfl rfl rfl Tryz.underlying89 Tryz.type120 rfl rfl rfl rfl rfl rfl (A0 rfl) (A0 rfl) rfl qz43 ?_
  intro v48_2
  refine R7 ?_
  refine Q1 i cc l v (i + 1) (x26.1) (l ++ [⟨x23.2, x26.2, V2, 0, false⟩]) (v48_2) ?_ ?_ (Le.trans (H6 [0, 0, 0] rfl) (T5 1 qz65 ⟨rfl, rfl, rfl, rfl, rfl, rfl, trivial⟩))
  ·exact ⟨by omega, by rw [D5, hinv.2.1]; rfl, by omega, fun a ha => (List.mem_append.1 ha).elim (hinv.2.2.2 a) fun e => by (rw [List.mem_singleton.1 e]; exact Nat.zero_le _)⟩
  omega
 intro h18
 have k18 := of_decide_eq_false h18; try simp only [A5] at k18
 refine R7 ?_
 (refine E4 [0, 0] ((cc, l, v)) ?_ rfl qz7 (H4 rfl (A4 rfl B1)); exact ⟨show cc.p ≤ _ by omega, show l.length ≤ 31 by omega, hinv.2.2.2⟩)
theorem r5 (b : Nat) (code : List Int) (hcode : Q6 code) (c : J6) (many most : Int) (hmm : many ≤ 5) (hm : 0 ≤ most ∧ most ≤ 30) (hp : c.p ≤ 1000000) : D7 Tryz.prog 53 [AV.ptr b 0, AV.int many, AV.int most] [.box b 47 (L6 code c)] (fun x : J6 × List M1 => x.1.p ≤ c.p + 4000 ∧ x.2.length ≤ 31 ∧ ∀ a ∈ x.2, a.Rec.size ≤ 1000) (fun x => [.box b 47 (L6 code x.1)]) (fun x => AV.list 11 (x.2.map M1.cs)) :=
  v1 (fun x => (x.1, x.2.1)) (fun x => [.arr x.2.2 120 11 (x.2.1.map M1.cs)]) (fun x => [.box b 47 (L6 code x.1)]) (Ay1 b code hcode c many most hmm hm hp) (fun _ h => h) (fun x _ => G5 (List.mem_singleton.2 rfl) E3) (fun x _ => List.perm_append_comm (l₁ := [_])) (fun _ _ => s6 0 rfl rfl H8) (fun x _ => AT2 ⟨rfl, rfl, d9⟩ Ab0)
end Go.Proofs.YtkibefcceekmnaaGreat
namespace Go.M
open Go.AV
theorem Y3 {d : G6} {s : Str} (hd : d.Kept.length + d.Loose.length ≤ 60000) (hs : s.length ≤ 1000) : (writeD d s).1.size ≤ 100000 := by
  have hf := frB_len (s := s) qz5
  unfold writeD ifDisk
  split
  · decide
  · split
    · decide
    · show d.Kept.length + (d.Loose ++ frameB s).length ≤ 100000
      rw [D5]; omega
end Go.M
namespace Go.Proofs.YtkibefcceekmnaaGreat
open Go Go.AV Go.M
attribute [local irreducible] OpW OpA OpS AWP C0 I0 D7 OpE RetOk G3 H5 Le Ev F6 J1 Int.tmod Int.tdiv IntKind.wrap bandI
theorem agg_wH {xs ys : List AV} (hl : xs.length = ys.length) (h : ∀ (i : Nat) (x y : AV), xs[i]? = some x → ys[i]? = some y → ∀ R v, x.den R v → y.den R v) (R : C9) (v : Value) (hv : (AV.agg xs).den R v) : (AV.agg ys).den R v := by
  obtain ⟨vs, e, hl2, hd⟩ := hv
  refine ⟨vs, e, hl2.trans hl, fun i u y hu hy => ?_⟩
  have hi : i < xs.length := by rw [hl]; exact (List.getElem?_eq_some_iff.1 hy).1
  obtain ⟨h1, h2⟩ := hd i u _ hu (List.getElem?_eq_getElem hi)
  exact ⟨h i _ y (List.getElem?_eq_getElem hi) hy _ _ h1, h2⟩
theorem BB1 {k r : Int} (R : C9) (v : Value) (h : (AV.agg [AV.int k, AV.int r, AV.int 0, AV.int 0, AV.int 0, AV.int 0, AV.nils, AV.nils, AV.bool false]).den R v) : (AV.agg (N8.cs ⟨k, r, V2⟩)).den R v := by
  refine agg_wH (xs := [AV.int k, AV.int r, AV.int 0, AV.int 0, AV.int 0, AV.int 0, AV.nils, AV.nils, AV.bool false]) (ys := N8.cs ⟨k, r, V2⟩) rfl (fun i x z hx hz => ?_) R v h
  rcases i with _ | _ | _ | _ | _ | _ | _ | _ | _ | i
  all_goals first
    | (injection hx with hx; injection hz with hz; subst hx; subst hz; first | exact fun _ _ h => h | exact Ai0)
    | (cases hx)
theorem Ay2 (b : Nat) (code : List Int) (hcode : Q6 code) (c : J6) (most : Int) (hm : 0 ≤ most ∧ most ≤ 30) (hp : c.p ≤ 500000) : D7 Tryz.prog 21 [AV.ptr b 0, AV.int most] [.box b 47 (L6 code c)] (fun x : J6 × THouse => x.1.p ≤ c.p + 5000 ∧ HI x.2) (fun x => [.box b 47 (L6 code x.1)]) (fun x => AV.agg x.2.cs) := by
 refine D1 Tryz.func21 rfl Tryz.ntmps21 rfl ?_
 refine R3 ?_
 intro b4
 refine R5 ?_
 refine B6 [1] rfl rfl rfl rfl Tryz.call35 rfl (i4 _ _ hcode _ ([(3), (3), (5)] : List Int) B5 qz5) (A1 (A0 rfl) (A1 (A0 rfl) A3)) rfl ?_
 intro x10 ok10
 obtain ⟨n, hn, hnn⟩ : ∃ n : Nat, x10.2 = (n : Int) ∧ (n = 3 ∨ n = 5) := (by have h9 := ok10.2; rw [List.mem_cons, List.mem_cons, List.mem_singleton] at h9; exact ⟨x10.2.toNat, by omega, by omega⟩)
 rw [hn]
 refine R5 ?_
 refine A2 rfl (A8 rfl Tryz.call50 rfl (An5 n hnn) (A1 (A0 rfl) A3)) ?_
 refine R4 ?_
 intro b6
 refine R4 ?_
 refine N7 [] 10 (.pure 1 (.pure 2 (.e2 0 (.e1 3 (.pure 4 (.e1 5 (.pure 6 (.pure 7 (.pure 8 (.e1 9 .nil))))))) 3 (.pure 4 (.e1 0 (.e1 5 (.pure 6 (.pure 7 (.pure 8 (.e1 9 .nil)))))))))) F9 F9 rfl s4 ?_
 refine R2 ?_
 refine u9 ?_ ?_
 ·refine I7 rfl rfl rfl (S6 (Z3 0 rfl (A0 rfl) rfl F4 D9 rfl)) (fun a _ => qz2) ?_
  intro _ _
  refine R1 ?_
  refine I7 rfl rfl rfl (K5 [1] rfl Tryz.call22 rfl (I5 _ _ hcode _ _ qz5 qz5) (A1 (A0 rfl) (A1 (A0 rfl) A3)) rfl) (fun a _ => qz2) ?_
  intro x20 ok20
  refine R2 ?_
  refine I7 rfl rfl rfl (K5 [] rfl Tryz.call51 rfl (AD6 (newH n 0 (-1)) ⟨3, x20.2, V2⟩ ⟨z6 hnn (.inl rfl) B5, fun h9 => absurd (show (0 : Int) ≤ -1 from h9) B5, (Y0 hnn (.inl rfl) B5).len, fun d hd => by (rw [(Y0 (r := -1) (t := 0) hnn (.inl rfl) B5).disks d hd]; decide)⟩ (Nat.zero_le _)) (A1 (A0 rfl) (A1 (Ah9 (A0 rfl) BB1) A3)) rfl) (fun a _ => qz2) ?_
  intro x22 ok22
  have h22 := ok22.2 n hnn rfl rfl ok20.2.1 (by have h9 := ok20.2; dsimp only; omega)
  subst h22
  refine R4 ?_
  refine X7 rfl rfl rfl (O9 0 rfl rfl (A0 rfl) (A0 rfl) (J3 _) rfl D9 rfl) (fun a _ => qz2) ?_
  intro _ _
  refine R3 ?_
  refine N7 [] 10 (.pure 1 (.pure 2 (.pure 3 (.e2 0 (.e1 4 (.e1 5 (.pure 6 (.pure 7 (.pure 8 (.e1 9 .nil)))))) 4 (.e1 0 (.e1 5 (.pure 6 (.pure 7 (.pure 8 (.e1 9 .nil)))))))))) F9 F9 rfl s4 ?_
  refine R3 ?_
  refine u9 ?_ ?_
  ·refine I7 rfl rfl rfl (S6 (Z3 0 rfl (A0 rfl) rfl F4 D9 rfl)) (fun a _ => qz2) ?_
   intro _ _
   refine R1 ?_
   refine I7 rfl rfl rfl (K5 [2] rfl Tryz.call53 rfl (r5 _ _ hcode _ _ _ qz5 hm qz5) (A1 (A0 rfl) (A1 (A0 rfl) (A1 (A0 rfl) A3))) rfl) (fun a _ => qz2) ?_
   intro x30 ok30
   refine R1 ?_
   refine I7 rfl rfl rfl (K5 [] rfl Tryz.call52 rfl (m2 (newH n 1 x20.2) x30.2 (Ac4 hnn ⟨ok20.2.1, by have h9 := ok20.2; omega⟩ B5) (Y0 hnn (.inr ⟨ok20.2.1, by have h9 := ok20.2; omega⟩) B5) qz75 ok30.2.2) (A1 (A0 rfl) (A1 (A0 rfl) A3)) rfl) (fun a _ => qz2) ?_
   intro x31 ok31
   refine R4 ?_
   refine X7 rfl rfl rfl (O9 0 rfl rfl (A0 rfl) (A0 rfl) (J3 _) rfl D9 rfl) (fun a _ => qz2) ?_
   intro _ _
   refine R8 ?_
   (refine E4 [2] ((x30.1, x31.1)) ?_ rfl qz7 (H4 rfl (C4 (ys := _) 1 rfl rfl F4 D9 rfl)); exact ⟨by dsimp only; omega, ok31.1⟩)
  refine I7 rfl rfl rfl (K5 [2] rfl Tryz.call53 rfl (r5 _ _ hcode _ _ _ qz5 hm qz5) (A1 (A0 rfl) (A1 (A0 rfl) (A1 (A0 rfl) A3))) rfl) (fun a _ => qz2) ?_
  intro x30 ok30
  refine R1 ?_
  refine I7 rfl rfl rfl (S6 (Z3 0 rfl (A0 rfl) rfl F4 D9 rfl)) (fun a _ => qz2) ?_
  intro _ _
  refine R1 ?_
  refine I7 rfl rfl rfl (K5 [] rfl Tryz.call52 rfl (m2 (newH n 1 x20.2) x30.2 (Ac4 hnn ⟨ok20.2.1, by have h9 := ok20.2; omega⟩ B5) (Y0 hnn (.inr ⟨ok20.2.1, by have h9 := ok20.2; omega⟩) B5) qz75 ok30.2.2) (A1 (A0 rfl) (A1 (A0 rfl) A3)) rfl) (fun a _ => qz2) ?_
  intro x31 ok31
  refine R4 ?_
  refine X7 rfl rfl rfl (O9 0 rfl rfl (A0 rfl) (A0 rfl) (J3 _) rfl D9 rfl) (fun a _ => qz2) ?_
  intro _ _
  refine R8 ?_
  (refine E4 [2] ((x30.1, x31.1)) ?_ rfl qz7 (H4 rfl (C4 (ys := _) 1 rfl rfl F4 D9 rfl)); exact ⟨by dsimp only; omega, ok31.1⟩)
 refine I7 rfl rfl rfl (K5 [1] rfl Tryz.call22 rfl (I5 _ _ hcode _ _ qz5 qz5) (A1 (A0 rfl) (A1 (A0 rfl) A3)) rfl) (fun a _ => qz2) ?_
 intro x20 ok20
 refine R2 ?_
 refine I7 rfl rfl rfl (S6 (Z3 0 rfl (A0 rfl) rfl F4 D9 rfl)) (fun a _ => qz2) ?_
 intro _ _
 refine R1 ?_
 refine I7 rfl rfl rfl (K5 [] rfl Tryz.call51 rfl (AD6 (newH n 0 (-1)) ⟨3, x20.2, V2⟩ ⟨z6 hnn (.inl rfl) B5, fun h9 => absurd (show (0 : Int) ≤ -1 from h9) B5, (Y0 hnn (.inl rfl) B5).len, fun d hd => by (rw [(Y0 (r := -1) (t := 0) hnn (.inl rfl) B5).disks d hd]; decide)⟩ (Nat.zero_le _)) (A1 (A0 rfl) (A1 (Ah9 (A0 rfl) BB1) A3)) rfl) (fun a _ => qz2) ?_
 intro x22 ok22
 have h22 := ok22.2 n hnn rfl rfl ok20.2.1 (by have h9 := ok20.2; dsimp only; omega)
 subst h22
 refine R4 ?_
 refine X7 rfl rfl rfl (O9 0 rfl rfl (A0 rfl) (A0 rfl) (J3 _) rfl D9 rfl) (fun a _ => qz2) ?_
 intro _ _
 refine R3 ?_
 refine N7 [] 10 (.pure 1 (.pure 2 (.pure 3 (.e2 0 (.e1 4 (.e1 5 (.pure 6 (.pure 7 (.pure 8 (.e1 9 .nil)))))) 4 (.e1 0 (.e1 5 (.pure 6 (.pure 7 (.pure 8 (.e1 9 .nil)))))))))) F9 F9 rfl s4 ?_
 refine R3 ?_
 refine u9 ?_ ?_
 ·refine I7 rfl rfl rfl (S6 (Z3 0 rfl (A0 rfl) rfl F4 D9 rfl)) (fun a _ => qz2) ?_
  intro _ _
  refine R1 ?_
  refine I7 rfl rfl rfl (K5 [2] rfl Tryz.call53 rfl (r5 _ _ hcode _ _ _ qz5 hm qz5) (A1 (A0 rfl) (A1 (A0 rfl) (A1 (A0 rfl) A3))) rfl) (fun a _ => qz2) ?_
  intro x30 ok30
  refine R1 ?_
  refine I7 rfl rfl rfl (K5 [] rfl Tryz.call52 rfl (m2 (newH n 1 x20.2) x30.2 (Ac4 hnn ⟨ok20.2.1, by have h9 := ok20.2; omega⟩ B5) (Y0 hnn (.inr ⟨ok20.2.1, by have h9 := ok20.2; omega⟩) B5) qz75 ok30.2.2) (A1 (A0 rfl) (A1 (A0 rfl) A3)) rfl) (fun a _ => qz2) ?_
  intro x31 ok31
  refine R4 ?_
  refine X7 rfl rfl rfl (O9 0 rfl rfl (A0 rfl) (A0 rfl) (J3 _) rfl D9 rfl) (fun a _ => qz2) ?_
  intro _ _
  refine R8 ?_
  (refine E4 [2] ((x30.1, x31.1)) ?_ rfl qz7 (H4 rfl (C4 (ys := _) 1 rfl rfl F4 D9 rfl)); exact ⟨by dsimp only; omega, ok31.1⟩)
 refine I7 rfl rfl rfl (K5 [2] rfl Tryz.call53 rfl (r5 _ _ hcode _ _ _ qz5 hm qz5) (A1 (A0 rfl) (A1 (A0 rfl) (A1 (A0 rfl) A3))) rfl) (fun a _ => qz2) ?_
 intro x30 ok30
 refine R1 ?_
 refine I7 rfl rfl rfl (S6 (Z3 0 rfl (A0 rfl) rfl F4 D9 rfl)) (fun a _ => qz2) ?_
 intro _ _
 refine R1 ?_
 refine I7 rfl rfl rfl (K5 [] rfl Tryz.call52 rfl (m2 (newH n 1 x20.2) x30.2 (Ac4 hnn ⟨ok20.2.1, by have h9 := ok20.2; omega⟩ B5) (Y0 hnn (.inr ⟨ok20.2.1, by have h9 := ok20.2; omega⟩) B5) qz75 ok30.2.2) (A1 (A0 rfl) (A1 (A0 rfl) A3)) rfl) (fun a _ => qz2) ?_
 intro x31 ok31
 refine R4 ?_
 refine X7 rfl rfl rfl (O9 0 rfl rfl (A0 rfl) (A0 rfl) (J3 _) rfl D9 rfl) (fun a _ => qz2) ?_
 intro _ _
 refine R8 ?_
 (refine E4 [2] ((x30.1, x31.1)) ?_ rfl qz7 (H4 rfl (C4 (ys := _) 1 rfl rfl F4 D9 rfl)); exact ⟨by dsimp only; omega, ok31.1⟩)
theorem Ah3 (code : List Int) (hcode : Q6 code) : D7 Tryz.prog 8 [AI6 code] [] (fun x : G6 => x.size ≤ 100000) (fun x => []) (fun x => AV.agg x.cs) := by
 refine D1 Tryz.func8 rfl Tryz.ntmps8 rfl ?_
 refine R3 ?_
 intro b2
 refine R6 ?_
 intro b8
 refine R5 ?_
 refine B6 [0] rfl rfl rfl rfl Tryz.call21 rfl (Ay2 _ _ hcode ⟨0, 0⟩ _ B5 B5) (A1 (A0 rfl) (A1 D6 A3)) rfl ?_
 intro x10 ok10
 obtain ⟨⟨c10, h⟩, hx10⟩ : ∃ z, x10 = z := ⟨_, rfl⟩
 subst hx10
 obtain ⟨hp10, hi10⟩ := ok10
 have hp10' : c10.p ≤ 5000 := (by dsimp only at hp10; omega)
 have hi9 : HI h := hi10
 have hl3 : 3 ≤ h.Disks.length ∧ h.Disks.length ≤ 5 := (by have h1 := hi9.gg.many; have h2 := hi9.len; omega)
 dsimp only
 refine R1 ?_
 intro b4
 refine R3 ?_
 refine AWP.le (H6 [0, 1] rfl) ?_
 refine X6 _ 10 (.pure 0 (.pure 1 (.pure 2 (.pure 3 (.pure 4 (.pure 5 (.e2 6 (.pure 7 (.pure 8 (.e1 9 .nil))) 9 (.e1 6 (.pure 7 (.pure 8 .nil)))))))))) F9 F9 rfl (X4 2) ?_
 refine R6 ?_
 refine u9 ?_ ?_
 ·refine I7 rfl rfl rfl (K5 [2] rfl Tryz.call22 rfl (I5 _ _ hcode _ _ AI7 qz5) (A1 (A0 rfl) (A1 (A0 rfl) A3)) rfl) (fun a _ => qz2) ?_
  intro x17 ok17
  have hp17 := ok17.1
  simp only [A5] at ok17
  obtain ⟨d, hd⟩ := E7 (show x17.2.toNat < h.Disks.length by omega)
  have hds : d.Kept.length + d.Loose.length ≤ 60000 := hi9.disks d (C6 hd)
  refine L5 rfl rfl rfl (fun ext => F1 rfl D2 B9 (A0 rfl) (A0 rfl) hd qz5) ?_
  refine R2 ?_
  refine I7 rfl rfl rfl (X5 rfl Tryz.zeroValue34 rfl) (fun a _ => qz2) ?_
  intro b5 _
  refine R7 ?_
  refine B6 [2] rfl rfl rfl rfl Tryz.call22 rfl (I5 _ _ hcode _ _ qz5 qz5) (A1 (A0 rfl) (A1 D6 A3)) rfl ?_
  intro x21 ok21
  refine R7 ?_
  refine A6 (A0 rfl) ?_ ?_
  ·intro h22
   have k22 := F3 h22; try simp only [A5] at k22
   refine R4 ?_
   refine A2 rfl (J7 rfl (A0 rfl) (D4 (l := [120]) rfl) qz8) ?_
   refine B6 [0] rfl rfl rfl rfl Tryz.call23 rfl (AM7 _ _ hcode _ (d.Kept ++ [120]) _ W7 B5 qz5) (A1 (A0 rfl) (A1 (A0 rfl) (A1 (D4 (l := [0, 1, 255]) rfl) A3))) rfl ?_
   intro x28 ok28
   refine R9 ?_
   (refine E4 [] (⟨x28.2, d.Loose⟩) ?_ rfl qz7 (H4 rfl (C4 (ys := _) 2 rfl rfl I1 B9 rfl)); first | exact Nat.le_trans (show d.size ≤ 60000 from hds) B5 | (have h9 := ok28.2; show x28.2.length + d.Loose.length ≤ 100000; simp at h9; omega) | exact Y3 hds AA2)
  intro h22
  have k22 := F2 h22; try simp only [A5] at k22
  refine R5 ?_
  refine A6 (A0 rfl) ?_ ?_
  ·intro h30
   have k30 := F3 h30; try simp only [A5] at k30
   refine N7 [] 8 (.pure 1 (.e2 0 (.e1 2 (.pure 3 (.pure 4 (.pure 5 (.pure 6 (.e1 7 .nil)))))) 2 (.e1 0 (.pure 3 (.pure 4 (.pure 5 (.pure 6 (.e1 7 .nil)))))))) F9 F9 rfl s4 ?_
   refine R1 ?_
   refine u9 ?_ ?_
   ·refine I7 rfl rfl rfl (S6 (Z3 3 rfl (A0 rfl) rfl I1 B9 rfl)) (fun a _ => qz2) ?_
    intro _ _
    refine R1 ?_
    refine I7 rfl rfl rfl (K5 [0] rfl Tryz.call25 rfl (w6 _ _ hcode _ qz5) (A1 (A0 rfl) A3) rfl) (fun a _ => qz2) ?_
    intro x35 ok35
    refine L5 rfl rfl rfl (fun ext => A8 rfl Tryz.call24 rfl (f1 d x35.2 Ae8 AA2) (A1 (A0 rfl) (A1 (A0 rfl) A3))) ?_
    refine R4 ?_
    refine X7 rfl rfl rfl (O9 2 rfl rfl (A0 rfl) (A0 rfl) (J3 _) rfl B9 rfl) (fun a _ => qz2) ?_
    intro _ _
    refine R8 ?_
    (refine E4 [] ((writeD d x35.2).1) ?_ rfl qz7 (H4 rfl (C4 (ys := _) 1 rfl rfl I1 B9 rfl)); first | exact Nat.le_trans (show d.size ≤ 60000 from hds) B5 | (have h9 := ok28.2; show x28.2.length + d.Loose.length ≤ 100000; simp at h9; omega) | exact Y3 hds AA2)
   refine I7 rfl rfl rfl (K5 [0] rfl Tryz.call25 rfl (w6 _ _ hcode _ qz5) (A1 (A0 rfl) A3) rfl) (fun a _ => qz2) ?_
   intro x35 ok35
   refine R1 ?_
   refine I7 rfl rfl rfl (S6 (Z3 2 rfl (A0 rfl) rfl I1 B9 rfl)) (fun a _ => qz2) ?_
   intro _ _
   refine L5 rfl rfl rfl (fun ext => A8 rfl Tryz.call24 rfl (f1 d x35.2 Ae8 AA2) (A1 (A0 rfl) (A1 (A0 rfl) A3))) ?_
   refine R4 ?_
   refine X7 rfl rfl rfl (O9 2 rfl rfl (A0 rfl) (A0 rfl) (J3 _) rfl B9 rfl) (fun a _ => qz2) ?_
   intro _ _
   refine R8 ?_
   (refine E4 [] ((writeD d x35.2).1) ?_ rfl qz7 (H4 rfl (C4 (ys := _) 1 rfl rfl I1 B9 rfl)); first | exact Nat.le_trans (show d.size ≤ 60000 from hds) B5 | (have h9 := ok28.2; show x28.2.length + d.Loose.length ≤ 100000; simp at h9; omega) | exact Y3 hds AA2)
  intro h30
  have k30 := F2 h30; try simp only [A5] at k30
  refine R7 ?_
  (refine E4 [] (d) ?_ rfl qz7 (H4 rfl (C4 (ys := _) 2 rfl rfl I1 B9 rfl)); first | exact Nat.le_trans (show d.size ≤ 60000 from hds) B5 | (have h9 := ok28.2; show x28.2.length + d.Loose.length ≤ 100000; simp at h9; omega) | exact Y3 hds AA2)
 refine I7 rfl rfl rfl (X5 rfl Tryz.zeroValue34 rfl) (fun a _ => qz2) ?_
 intro b5 _
 refine R1 ?_
 refine I7 rfl rfl rfl (K5 [2] rfl Tryz.call22 rfl (I5 _ _ hcode _ _ AI7 qz5) (A1 (A0 rfl) (A1 (A0 rfl) A3)) rfl) (fun a _ => qz2) ?_
 intro x17 ok17
 have hp17 := ok17.1
 simp only [A5] at ok17
 obtain ⟨d, hd⟩ := E7 (show x17.2.toNat < h.Disks.length by omega)
 have hds : d.Kept.length + d.Loose.length ≤ 60000 := hi9.disks d (C6 hd)
 refine L5 rfl rfl rfl (fun ext => F1 rfl D2 B9 (A0 rfl) (A0 rfl) hd qz5) ?_
 refine R8 ?_
 refine B6 [3] rfl rfl rfl rfl Tryz.call22 rfl (I5 _ _ hcode _ _ qz5 qz5) (A1 (A0 rfl) (A1 D6 A3)) rfl ?_
 intro x21 ok21
 refine R7 ?_
 refine A6 (A0 rfl) ?_ ?_
 ·intro h22
  have k22 := F3 h22; try simp only [A5] at k22
  refine R4 ?_
  refine A2 rfl (J7 rfl (A0 rfl) (D4 (l := [120]) rfl) qz8) ?_
  refine B6 [0] rfl rfl rfl rfl Tryz.call23 rfl (AM7 _ _ hcode _ (d.Kept ++ [120]) _ W7 B5 qz5) (A1 (A0 rfl) (A1 (A0 rfl) (A1 (D4 (l := [0, 1, 255]) rfl) A3))) rfl ?_
  intro x28 ok28
  refine R9 ?_
  (refine E4 [] (⟨x28.2, d.Loose⟩) ?_ rfl qz7 (H4 rfl (C4 (ys := _) 2 rfl rfl I1 B9 rfl)); first | exact Nat.le_trans (show d.size ≤ 60000 from hds) B5 | (have h9 := ok28.2; show x28.2.length + d.Loose.length ≤ 100000; simp at h9; omega) | exact Y3 hds AA2)
 intro h22
 have k22 := F2 h22; try simp only [A5] at k22
 refine R5 ?_
 refine A6 (A0 rfl) ?_ ?_
 ·intro h30
  have k30 := F3 h30; try simp only [A5] at k30
  refine N7 [] 8 (.pure 1 (.e2 0 (.e1 2 (.pure 3 (.pure 4 (.pure 5 (.pure 6 (.e1 7 .nil)))))) 2 (.e1 0 (.pure 3 (.pure 4 (.pure 5 (.pure 6 (.e1 7 .nil)))))))) F9 F9 rfl s4 ?_
  refine R1 ?_
  refine u9 ?_ ?_
  ·refine I7 rfl rfl rfl (S6 (Z3 3 rfl (A0 rfl) rfl I1 B9 rfl)) (fun a _ => qz2) ?_
   intro _ _
   refine R1 ?_
   refine I7 rfl rfl rfl (K5 [0] rfl Tryz.call25 rfl (w6 _ _ hcode _ qz5) (A1 (A0 rfl) A3) rfl) (fun a _ => qz2) ?_
   intro x35 ok35
   refine L5 rfl rfl rfl (fun ext => A8 rfl Tryz.call24 rfl (f1 d x35.2 Ae8 AA2) (A1 (A0 rfl) (A1 (A0 rfl) A3))) ?_
   refine R4 ?_
   refine X7 rfl rfl rfl (O9 2 rfl rfl (A0 rfl) (A0 rfl) (J3 _) rfl B9 rfl) (fun a _ => qz2) ?_
   intro _ _
   refine R8 ?_
   (refine E4 [] ((writeD d x35.2).1) ?_ rfl qz7 (H4 rfl (C4 (ys := _) 1 rfl rfl I1 B9 rfl)); first | exact Nat.le_trans (show d.size ≤ 60000 from hds) B5 | (have h9 := ok28.2; show x28.2.length + d.Loose.length ≤ 100000; simp at h9; omega) | exact Y3 hds AA2)
  refine I7 rfl rfl rfl (K5 [0] rfl Tryz.call25 rfl (w6 _ _ hcode _ qz5) (A1 (A0 rfl) A3) rfl) (fun a _ => qz2) ?_
  intro x35 ok35
  refine R1 ?_
  refine I7 rfl rfl rfl (S6 (Z3 2 rfl (A0 rfl) rfl I1 B9 rfl)) (fun a _ => qz2) ?_
  intro _ _
  refine L5 rfl rfl rfl (fun ext => A8 rfl Tryz.call24 rfl (f1 d x35.2 Ae8 AA2) (A1 (A0 rfl) (A1 (A0 rfl) A3))) ?_
  refine R4 ?_
  refine X7 rfl rfl rfl (O9 2 rfl rfl (A0 rfl) (A0 rfl) (J3 _) rfl B9 rfl) (fun a _ => qz2) ?_
  intro _ _
  refine R8 ?_
  (refine E4 [] ((writeD d x35.2).1) ?_ rfl qz7 (H4 rfl (C4 (ys := _) 1 rfl rfl I1 B9 rfl)); first | exact Nat.le_trans (show d.size ≤ 60000 from hds) B5 | (have h9 := ok28.2; show x28.2.length + d.Loose.length ≤ 100000; simp at h9; omega) | exact Y3 hds AA2)
 intro h30
 have k30 := F2 h30; try simp only [A5] at k30
 refine R7 ?_
 (refine E4 [] (d) ?_ rfl qz7 (H4 rfl (C4 (ys := _) 2 rfl rfl I1 B9 rfl)); first | exact Nat.le_trans (show d.size ≤ 60000 from hds) B5 | (have h9 := ok28.2; show x28.2.length + d.Loose.length ≤ 100000; simp at h9; omega) | exact Y3 hds AA2)
end Go.Proofs.YtkibefcceekmnaaGreat
namespace Go.M
open Go.AV
theorem BL3 {e : B8} (h : (N1 e).2 = false) : N1 e = ([], false) := by
  unfold N1 at h ⊢
  split at h
  · cases h
  · rw [if_neg ‹_›]
theorem BG9 {e : B8} (h : (N1 e).2 = true) : L8 e = true ∧ N1 e = (entB e, true) := by
  unfold N1 at h ⊢
  split at h
  · exact ⟨‹_›, if_pos ‹_›⟩
  · cases h
theorem At9 (e : B8) : (N1 e).1.length ≤ 460 := by
  unfold N1
  split
  · exact m7 ‹_›
  · exact Nat.zero_le _
end Go.M
namespace Go.Proofs.YtkibefcceekmnaaGreat
open Go Go.AV Go.M
open Go.ChangeShapes Go.WideShapes Go.ChangeAt Go.RowKit
section
attribute [local irreducible] OpW OpA OpS AWP C0 I0 D7 OpE RetOk G3 H5 Le Ev F6 J1 Int.tmod Int.tdiv IntKind.wrap bandI
theorem BH0 (code : List Int) : C0 Tryz.prog 4 [AI6 code] (AV.bool (decide (65536 < (code.length : Int)))) := by
 refine B3 Tryz.func4 rfl Tryz.ntmps4 rfl ?_
 refine Z2 (t := 0) rfl fun hl0 => ?_
 try simp only [A5] at hl0
 refine R12 ?_
 exact F0 rfl (A4 rfl (by (refine congrArg AV.bool ?_; simp only [A5])))
theorem Au0 (code : List Int) (hc : ∀ x ∈ code, (Lit.int .u8 x).wf = true) : C0 Tryz.prog 3 [AI6 code] (AV.bool true) := by
 have hb0 : Q6 code := byteL_of hc
 refine B3 Tryz.func3 rfl Tryz.ntmps3 rfl ?_
 refine R8 ?_
 refine A2 rfl (A8 rfl Tryz.call4 rfl (BH0 code) (A1 (A0 rfl) A3)) ?_
 refine R1 ?_
 refine A6 (A0 rfl) ?_ ?_
 ·intro h20
  refine R5 ?_
  exact F0 rfl (A4 rfl B1)
 intro h20
 refine R4 ?_
 refine B6 [] rfl rfl rfl rfl Tryz.call5 rfl (AS0 code hb0) (A1 (A0 rfl) A3) rfl ?_
 intro x22 ok22
 have hbl := At9 x22
 have hxs : x22.size ≤ 1002 := ok22
 refine R1 ?_
 intro b3
 refine R5 ?_
 refine A2 rfl (A8 rfl Tryz.call6 rfl (Ad3 x22 qz5) (A1 (A0 rfl) A3)) ?_
 refine R9 ?_
 refine A2 rfl (A8 rfl Tryz.call7 rfl (AZ2 x22 qz5) (A1 (A0 rfl) A3)) ?_
 refine R9 ?_
 refine B6 [] rfl rfl rfl rfl Tryz.call8 rfl (Ah3 code hb0) (A1 (A0 rfl) A3) rfl ?_
 intro x34 ok34
 have hds : x34.size ≤ 100000 := ok34
 refine R1 ?_
 intro b8
 refine R5 ?_
 refine A2 rfl (A8 rfl Tryz.call9 rfl (AR3 x34 qz5) (A1 (A0 rfl) A3)) ?_
 refine R9 ?_
 refine A2 rfl (A8 rfl Tryz.call10 rfl (i6 x34 qz5) (A1 (A0 rfl) A3)) ?_
 refine R15 ?_
 refine L0 rfl (fun hc => Ap1 rfl O6 (B0 rfl hc) (B0 rfl hc)) ?_
 refine R4 ?_
 refine L0 rfl (fun hc => Ap1 rfl O6 (B0 rfl hc) (B0 rfl hc)) ?_
 refine R4 ?_
 refine L0 rfl (fun hc => A8 rfl Tryz.call11 rfl (AR4 _) (A1 (B0 rfl hc) (A1 (B0 rfl hc) A3))) ?_
 refine R3 ?_
 refine A6 (A0 rfl) ?_ ?_
 ·intro h63
  exfalso; simp at h63
 intro h63
 refine R4 ?_
 refine A2 rfl (A8 rfl Tryz.call12 rfl (AI2 _ qz5) (A1 (A0 rfl) A3)) ?_
 refine R4 ?_
 intro b13
 refine R9 ?_
 refine A6 (A0 rfl) ?_ ?_
 ·intro h70
  have he := BL3 (e := x22) (by simpa using h70)
  rw [he]
  rw [Av4]
  refine R7 ?_
  exact F0 rfl (A4 rfl B1)
 intro h70
 obtain ⟨hg, he⟩ := BG9 (e := x22) (by simpa using h70)
 rw [he]
 rw [Ac2 hg]
 refine R2 ?_
 have hel := m7 hg
 have hfl := Q4 (entB x22)
 have hn5 := Q9 (n := (entB x22).length) qz5
 refine R3 ?_
 refine A2 rfl (A8 rfl Tryz.call13 rfl ((by have h9 := Ag5 T9 (entB x22) B5 qz5; rw [BE2 hg] at h9; exact h9)) (A1 (A0 rfl) (A1 (A0 rfl) A3))) ?_
 refine R4 ?_
 intro b15
 refine R6 ?_
 refine A2 rfl (A8 rfl Tryz.call9 rfl ((by have h9 := AR3 ⟨[], frameB (entB x22)⟩ (by show 0 + (frameB (entB x22)).length ≤ _; omega); rw [Ag1 hg] at h9; exact h9)) (A1 (A0 rfl) A3)) ?_
 refine R14 ?_
 refine K1 rfl (fun hc => A8 rfl Tryz.call11 rfl (AR4 [x22]) (A1 (B0 rfl hc) (A1 (B0 rfl hc) A3))) ?_
 refine R8 ?_
 refine K1 rfl (fun hc => A8 rfl Tryz.call11 rfl (AR4 [x22]) (A1 (B0 rfl hc) (A1 (B0 rfl hc) A3))) ?_
 refine R4 ?_
 exact F0 rfl (A4 rfl B1)
end
theorem Ay3 : Ae2 Tryz.prog 22 (List Int) (fun l => [AI6 l]) (fun l => ∀ x ∈ l, (Lit.int .u8 x).wf = true) := Au3 (sz := 1) H1 F9 (BH4 H3) (fun _ => rfl)
set_option maxRecDepth 100000 in
theorem fnEntry_lifted (os : Os) (started : os.Started) (H : Type) (enc : TypeId × Value → H) :
    ReturnsInHanded {} Tryz.checked os 3 .any (Rows.fnEntrySpec.pre6 enc Tryz.prog Tryz.f3 Rows.fnEntryRow.domain false) (Rows.fnEntrySpec.post enc Tryz.prog Tryz.f3 false true false false) := by
  refine returnsInHanded_of_change (C := Tryz.checked) F9 started F9 Tryz.func3
    (ChangeSpec.witness6 (enc := enc) (C := Tryz.checked) false ⟨#[], #[.slice none 0 0], []⟩ 8 F9 F9 F9 F9) ?_
  intro W base args ds gs before hval0 hW hcnd _
  have hval : ∀ (j : Nat) t v, Tryz.f3.params[j]? = some t → args[j]? = some v → Value.okWide Tryz.prog W .any base t v := hval0
  have hW2 := hW
  obtain ⟨p, q, hA0, hV, rfl, hfz, hnd⟩ := hW
  have hA : DataW.TrodAll enc Tryz.prog W 0 (fun _ => true) true Tryz.f3.params.toList args.toList ds p := hA0
  rw [Tryz.params3] at hA hval
  obtain ⟨v0, vs0, d0, ds0, p0, q0, hargs, rfl, rfl, h0, r0⟩ := trodAll_cons hA
  obtain ⟨rfl, rfl, rfl⟩ := trodAll_nil r0
  obtain rfl : args = #[v0] := by cases args; simp_all
  obtain ⟨rfl, rfl⟩ := trodVars_none hV
  have lt0 : ∀ x ∈ p0, x.block < W.heap.size := by obtain ⟨m, hm⟩ := h0; exact DataW.trod_lt m _ _ _ hm
  obtain ⟨a0, w0, g0⟩ := arg_one (Ay3) (by obtain ⟨y1, y2, y3, rfl⟩ := okWide_slice H1 (hval 0 22 v0 rfl rfl); rfl) h0
  have hcall := BH5 (Au0 a0 w0) (S1.cons g0 (S1.nil _))
  clear hA0 hval0
  refine Calls.mono hcall fun e W2 ⟨he, bel⟩ => ?_
  subst he
  exact ⟨_, rfl, _, _, _, [], _, [], hW2, trodAll_mk1 (shut_bool O6 _), (trodAll_cons_mk (Below.trod (by kernel_rfl : laidOutB Tryz.prog = true) F9 (of_decide_eq_true F9) h0 bel lt0) trodAll_mk0), rfl, bel.frame _, fun h => by cases h⟩
theorem Ay4 {a b : Bool} (h : a = true) (k : b = true) : (a && b) = true := by rw [h, k]; rfl
set_option maxRecDepth 100000 in
theorem An7 : joinedFacts Tryz.pinned.checked.prog 3 Tryz.f3 Rows.fnEntrySpec Rows.fnEntryRow = true := by
  unfold joinedFacts
  iterate 18 (rw [Bool.and_assoc])
  refine Ay4 ?_ ?_
  · as_aux_lemma => kernel_rfl
  · as_aux_lemma => kernel_rfl
theorem fnEntry_proved : Rows.FnEntrySaid :=
  OpenClaim.holds_of_wide 3 Tryz.f3 rfl rfl rfl rfl rfl rfl rfl ⟨rfl, rfl, rfl, rfl, rfl⟩ rfl rfl rfl rfl rfl F9 Tryz.func3 An7
    (of_decide_eq_true F9) (by unfold Func.isWrapper; first | (rw [if_pos (by decide +kernel)]; kernel_rfl) | (rw [if_neg (by decide +kernel)]; exact ⟨rfl, rfl⟩))
    (fun os started H enc _ => fnEntry_lifted os started H enc)
end Go.Proofs.YtkibefcceekmnaaGreat
