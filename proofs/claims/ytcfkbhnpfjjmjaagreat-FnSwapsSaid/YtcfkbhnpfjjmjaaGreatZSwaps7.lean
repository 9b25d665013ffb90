/- Texts of the claim, part 7. -/
import Derived.Test.YtcfkbhnpfjjmjaaGreatZSwaps6
set_option linter.unusedVariables false
set_option linter.unusedSimpArgs false
set_option maxRecDepth 100000
set_option maxHeartbeats 4000000
namespace Go.M
open Go.AV
theorem lead_any {g : TGroup} (h : GG g) : GS (leadSure g) ∧ GS (leadFull g) := by
  unfold leadSure leadFull
  by_cases e : ∃ r, g.Reps[g.Lead.toNat]? = some r
  · obtain ⟨r, hr⟩ := e
    have hm := h.reps r (C6 hr)
    rw [repAt_of hr]
    exact ⟨AN9 hm _, AN9 hm _⟩
  · have he : repAt g g.Lead = ⟨false, [], 0⟩ := by
      unfold repAt
      cases hc : g.Reps[g.Lead.toNat]? with
      | none => rfl
      | some r => exact absurd ⟨r, hc⟩ e
    rw [he]
    exact ⟨Ax6, Ax6⟩
def AX8 (l : A2) (t c : Int) : A2 := { l with Time := t, Begin := c }
def AA1 (l : A2) (c : Int) : A2 := { l with End := c }
def j9 (l : A2) (g : G4) : A2 := { l with Got := l.Got ++ [g] }
theorem CC9 {w : TWorld} (hw : WI w) {l : A2} (h : LkOk w.Groups.length w.Count l) : ∃ c, w.Clocks[l.Node.toNat]? = some c ∧ goodClock c = true ∧ M.isTrue w.Now = true ∧ -1000000 ≤ (g6 c w.Now).High ∧ (g6 c w.Now).High ≤ 1000000 := by
  have hn := h.node
  obtain ⟨c, hc⟩ := get_some (show l.Node.toNat < w.Clocks.length by rw [hw.clocks.1]; omega)
  have h9 := hw.clocks.2 c (C6 hc)
  have h8 := hw.now
  refine ⟨c, hc, ?_, ?_, ?_, ?_⟩
  · unfold goodClock within; rw [Bool.and_eq_true, decide_eq_true_eq, decide_eq_true_eq]; exact h9
  · unfold M.isTrue within; rw [Bool.and_eq_true, decide_eq_true_eq, decide_eq_true_eq]; exact h8
  · show -1000000 ≤ w.Now + c.Off + 5; omega
  · show w.Now + c.Off + 5 ≤ 1000000; omega
theorem wv_begL {w : TWorld} (hw : WI w) {i : Nat} {l : A2} (hl : w.Looks[i]? = some l) (hb : l.Begin < 0) {t : Int} (ht : 0 ≤ t ∧ t ≤ 1000000) : WI (wLook w i (AX8 l t w.Count)) ∧ WS w (wLook w i (AX8 l t w.Count)) := by
  have h := hw.looks.2 l (C6 hl)
  have hs := h.span
  exact BP5 hw (i := i) (t := AX8 l t w.Count) ⟨h.node, h.keys, h.got, ⟨Int.le_refl _, .inl (by show l.End = -1; omega)⟩, ht⟩
theorem wv_endL {w : TWorld} (hw : WI w) {i : Nat} {l : A2} (hl : w.Looks[i]? = some l) (hb : 0 ≤ l.Begin ∧ l.Begin < w.Count) : WI (wLook w i (AA1 l w.Count)) ∧ WS w (wLook w i (AA1 l w.Count)) := by
  have h := hw.looks.2 l (C6 hl)
  exact BP5 hw (i := i) (t := AA1 l w.Count) ⟨h.node, h.keys, h.got, ⟨h.span.1, .inr ⟨hb.1, hb.2, Int.le_refl _⟩⟩, h.time⟩
theorem Bw2 {w : TWorld} (hw : WI w) {i : Nat} {l : A2} (hl : w.Looks[i]? = some l) {g : G4} (hlt : l.Got.length < l.Keys.length) (hg : g.size ≤ 64) : WI (wLook w i (j9 l g)) ∧ WS w (wLook w i (j9 l g)) := by
  have h := hw.looks.2 l (C6 hl)
  refine BP5 hw (i := i) (t := j9 l g) ⟨h.node, h.keys, ⟨?_, fun x hx => ?_⟩, h.span, h.time⟩
  · show (l.Got ++ [g]).length ≤ l.Keys.length; rw [G2]; simp; omega
  · rcases List.mem_append.1 (show x ∈ l.Got ++ [g] from hx) with hx | hx
    · exact h.got.2 x hx
    · rw [List.mem_singleton.1 hx]; exact hg
end Go.M
namespace Go.Proofs.YtcfkbhnpfjjmjaaGreat
open Go Go.AV Go.M
attribute [local irreducible] OpW OpA OpS AWP B9 J5 C8 OpE RetOk H1 I9 Le Ev F6 J9 V9 Int.tmod Int.tdiv IntKind.wrap bandI
theorem Bl7 (s : AO7) : B9 Tryz.prog 199 [AV.agg s.cs] (AV.int (X2 1 s.High)) := by
  refine B7 Tryz.func199 rfl Tryz.ntmps199 rfl ?_
  refine R3 ?_
  intro b1
  refine R6 ?_
  refine A4 rfl (B2 rfl Tryz.call23 rfl (Z1 _ _) (A1 D8 (A1 (A0 rfl) A7))) ?_
  refine R3 ?_
  exact D5 rfl (A6 rfl B0)
theorem look_own (b : Nat) (w : TWorld) (X : WX) (T : List (Value × Value)) (L : List Value) (n : Int) (hw : WI w) (hc9 : ∀ x ∈ w.Looks, x.Begin < w.Count) (hL : L.length = w.Looks.length) (hn : 0 ≤ n ∧ n.toNat < w.Looks.length) : C8 Tryz.prog 186 [AV.ptr b 0, AV.int n] (WB b w X T L) (fun v : (TWorld × Bool) × List Value => (WI v.1.1 ∧ WS w v.1.1) ∧ v.2.length = L.length) (fun v => WB b v.1.1 X T v.2) (fun v => AV.bool v.1.2) := by
 have hng := hw.n
 have hln := hw.looks.1
 obtain ⟨lk, hlk⟩ := get_some hn.2
 obtain ⟨z, hz⟩ := get_some (show n.toNat < L.length by omega)
 have hlo := hw.looks.2 lk (C6 hlk)
 obtain ⟨c, hcx, hcg, hnow, hsl, hsh⟩ := CC9 hw hlo
 have hnd := hlo.node
 have hsp := Ad1 b w X T L lk.Node c hcx hnd.1 hcg hnow
 have hsp2 := Ad1 b (wLook w n.toNat (AA1 lk w.Count)) X T L lk.Node c hcx hnd.1 hcg hnow
 have hkl := hlo.keys.1
 have hgl8 := hlo.got.1
 have hmx : 0 ≤ X2 1 (g6 c w.Now).High ∧ X2 1 (g6 c w.Now).High ≤ 1000000 := by unfold X2; split <;> omega
 refine C3 Tryz.func186 rfl Tryz.ntmps186 rfl ?_
 refine R12 ?_
 refine A4 rfl (D7 6 rfl i7 Tryz.sizeOf152 (A0 rfl) rfl (A0 rfl) qz8 Bd6) ?_
 refine R7 ?_
 refine A4 rfl (T1 6 rfl (A0 rfl) rfl qz1 rfl) ?_
 refine A4 rfl (J2 6 rfl K7 rfl B4 (A0 rfl) rfl rfl qz1) ?_
 refine A4 rfl (K5 6 rfl (A0 rfl) rfl H3 qz1 rfl) ?_
 refine R3 ?_
 refine A8 (A0 rfl) ?_ ?_
 ·intro h17
  have k17 := of_decide_eq_true h17; try simp only [A5] at k17
  refine R5 ?_
  exact H4 [0, 0, 0, 0, 0, 0, 0] 0 (nin A3.ow w.Txns T ++ nin A2.ow w.Looks L) [] (((w, false), L)) (BO2) rfl (show List.Perm (nin A3.ow w.Txns T ++ nin A2.ow w.Looks L) ((nin A3.ow w.Txns T ++ nin A2.ow w.Looks L) ++ []) from B8) BO3 (E6 rfl (A6 rfl B0))
 intro h17
 have k17 := of_decide_eq_false h17; try simp only [A5] at k17
 refine R3 ?_
 refine A4 rfl (T1 6 rfl (A0 rfl) rfl qz1 rfl) ?_
 refine A4 rfl (J2 6 rfl K7 rfl B4 (A0 rfl) rfl rfl qz1) ?_
 refine A4 rfl (K5 6 rfl (A0 rfl) rfl H3 qz1 rfl) ?_
 refine R3 ?_
 refine A8 (A0 rfl) ?_ ?_
 ·intro h23
  have k23 := of_decide_eq_true h23; try simp only [A5] at k23
  refine R5 ?_
  refine A4 rfl (T1 6 rfl (A0 rfl) rfl qz1 rfl) ?_
  refine A4 rfl (J2 6 rfl K7 rfl B4 (A0 rfl) rfl rfl qz1) ?_
  refine A4 rfl (K5 6 rfl (A0 rfl) rfl H3 qz1 rfl) ?_
  refine A4 rfl (X6 [0, 0, 0, 0, 0, 0, 0] 0 (nin A3.ow w.Txns T ++ nin A2.ow w.Looks L) ([]) rfl Tryz.call181 rfl rfl (B8) (hsp) (A1 (A0 rfl) (A1 (A0 rfl) A7))) ?_
  refine A4 rfl (B2 rfl Tryz.call199 rfl (Bl7 _) (A1 (A0 rfl) A7)) ?_
  refine A4 rfl (T1 6 rfl (A0 rfl) rfl qz1 rfl) ?_
  refine A4 rfl (J2 6 rfl K7 rfl B4 (A0 rfl) rfl rfl qz1) ?_
  refine T3 6 rfl rfl rfl (A0 rfl) (A0 rfl) (M5 _ _) rfl B4 qz1 rfl ?_
  refine R9 ?_
  refine A4 rfl (T1 6 rfl (A0 rfl) rfl qz1 rfl) ?_
  refine A4 rfl (J2 6 rfl K7 rfl B4 (A0 rfl) rfl rfl qz1) ?_
  refine T3 6 rfl rfl rfl (A0 rfl) (A0 rfl) (M5 _ _) rfl B4 qz1 rfl ?_
  refine R4 ?_
  refine A4 rfl (T1 6 rfl (A0 rfl) rfl qz1 rfl) ?_
  refine A4 rfl (J2 6 rfl K7 rfl B4 (A0 rfl) rfl rfl qz1) ?_
  refine A4 rfl (K5 6 rfl (A0 rfl) rfl H3 qz1 rfl) ?_
  refine R4 ?_
  exact H4 [0, 0, 0, 0, 0, 0, 0] 0 (nin A3.ow w.Txns T ++ nin A2.ow w.Looks L) [] (((wLook w n.toNat (AX8 lk (X2 1 (g6 c w.Now).High) w.Count), _), L)) (BO2) rfl (show List.Perm (nin A3.ow w.Txns T ++ nin A2.ow w.Looks L) ((nin A3.ow w.Txns T ++ nin A2.ow w.Looks L) ++ []) from B8) BO3 (E6 rfl (A6 rfl B0))
 intro h23
 have k23 := of_decide_eq_false h23; try simp only [A5] at k23
 have hbg : 0 ≤ lk.Begin := (by simp at h23; omega)
 have hbc := hc9 lk (C6 hlk)
 refine R1 ?_
 refine AWP.le (O2 7 (t := ([Go.AV.Own.arr z 45 3 (lk.Got.map G4.cs)]) ++ (nin A2.ow (w.Looks.eraseIdx n.toNat) (L.eraseIdx n.toNat) ++ nin A3.ow w.Txns T)) (Au5 hlk hz)) ?_
 refine R2 ?_
 refine C2 rfl rfl (T1 6 rfl (A0 rfl) rfl qz1 rfl) ?_
 refine C2 rfl rfl (J2 6 rfl K7 rfl O0 (A0 rfl) rfl rfl qz1) ?_
 refine C2 rfl rfl (K5 6 rfl (A0 rfl) rfl Z2 qz1 rfl) ?_
 refine R2 ?_
 refine C2 rfl rfl (T1 6 rfl (A0 rfl) rfl qz1 rfl) ?_
 refine C2 rfl rfl (J2 6 rfl K7 rfl d5 (A0 rfl) rfl rfl qz1) ?_
 refine C2 rfl rfl (K5 6 rfl (A0 rfl) rfl Tryz.isAgg79 qz1 rfl) ?_
 refine R4 ?_
 refine A8 (A0 rfl) ?_ ?_
 ·intro h52
  have k52 := D2 h52; try simp only [A5] at k52
  refine AWP.le (C1 [0, 0, 0, 0, 0, 0, 0, 0] rfl) ?_
  refine AWP.le (O2 7 (t := nin A3.ow w.Txns T ++ nin A2.ow w.Looks L) ((Au5 hlk hz).symm)) ?_
  refine I5 w8 ?_
  refine R8 ?_
  refine A4 rfl (T1 6 rfl (A0 rfl) rfl qz1 rfl) ?_
  refine A4 rfl (J2 6 rfl K7 rfl B4 (A0 rfl) rfl rfl qz1) ?_
  refine T3 6 rfl rfl rfl (A0 rfl) (A0 rfl) (M5 _ _) rfl B4 qz1 rfl ?_
  refine R2 ?_
  refine I5 (show _ = WB b (wLook w n.toNat (AA1 lk w.Count)) X T L from (by unfold WB wLook; dsimp only; rw [l4 hlk hz, AF2 (p' := AA1 lk w.Count) hlk (fun _ => rfl)]; rfl)) ?_
  refine R2 ?_
  refine C2 rfl rfl (T1 6 rfl (A0 rfl) rfl qz1 rfl) ?_
  refine C2 rfl rfl (J2 6 rfl K7 rfl B4 (A0 rfl) rfl rfl qz1) ?_
  refine C2 rfl rfl (K5 6 rfl (A0 rfl) rfl H3 qz1 rfl) ?_
  refine R2 ?_
  refine C2 rfl rfl (T1 6 rfl (A0 rfl) rfl qz1 rfl) ?_
  refine C2 rfl rfl (J2 6 rfl K7 rfl B4 (A0 rfl) rfl rfl qz1) ?_
  refine C2 rfl rfl (K5 6 rfl (A0 rfl) rfl H3 qz1 rfl) ?_
  refine C2 rfl rfl (X6 [0, 0, 0, 0, 0, 0, 0] 0 (nin A3.ow w.Txns T ++ nin A2.ow (w.Looks.set n.toNat (AA1 lk w.Count)) L) ([]) rfl Tryz.call181 rfl rfl (B8) (hsp2) (A1 (A0 rfl) (A1 (A0 rfl) A7))) ?_
  refine C2 rfl rfl (BG2 rfl Tryz.underlying218 rfl H3 (A0 rfl) rfl) ?_
  refine R4 ?_
  exact H4 [0, 0, 0, 0, 0, 0, 0] 0 (nin A3.ow w.Txns T ++ nin A2.ow (w.Looks.set n.toNat (AA1 lk w.Count)) L) [] (((wLook w n.toNat (AA1 lk w.Count), _), L)) (BO2) rfl (show List.Perm (nin A3.ow w.Txns T ++ nin A2.ow (w.Looks.set n.toNat (AA1 lk w.Count)) L) ((nin A3.ow w.Txns T ++ nin A2.ow (w.Looks.set n.toNat (AA1 lk w.Count)) L) ++ []) from B8) BO3 (E6 rfl (A6 rfl B0))
 intro h52
 have k52 := D6 h52; try simp only [A5] at k52
 have hlt : lk.Got.length < lk.Keys.length := (by simp only [A5] at h52; have h9 := D6 h52; omega)
 obtain ⟨k, hk⟩ := get_some hlt
 have hk12 := hlo.keys.2 k (C6 hk)
 obtain ⟨p, hp⟩ : ∃ p : Nat, partW w.Cuts k = p := ⟨_, rfl⟩
 obtain ⟨gi, hx, hgl⟩ := BK9 hw k
 rw [hp] at hx hgl
 have hgi := hw.groups gi (C6 hx)
 have hla := lead_any hgi.good
 have hs1 := AQ6 (AB7.2 hla.1)
 have hs2 := AQ6 (AB7.2 hla.2)
 have hcs := Ar9 hla.1.cells
 have hcl := BK8 hla.1.cells k lk.Time
 have hpart : B9 Tryz.prog 170 [strs w.Cuts, AV.str k] (AV.int ((p : Nat) : Int)) := (by rw [← hp]; exact AF3 w.Cuts k)
 obtain ⟨pr, hpx⟩ := get_some (show ((p : Nat) : Int).toNat < w.Promised.length by rw [hw.promised.1]; omega)
 have hprl := (List.getElem?_eq_some_iff.1 hpx).1
 have hprb := hw.promised.2 pr (C6 hpx)
 have htm := hlo.time
 have hmy : 0 ≤ X2 pr lk.Time ∧ X2 pr lk.Time ≤ 1000000 := (by unfold X2; split <;> omega)
 have hwp := Bv1 hw (i := ((p : Nat) : Int).toNat) hmy
 have hsk := AM1 b (AD4 w ((p : Nat) : Int).toNat (X2 pr lk.Time)) X T L (p : Int) gi hx qz8 hgi.good
 refine R4 ?_
 refine C2 rfl rfl (T1 6 rfl (A0 rfl) rfl qz1 rfl) ?_
 refine C2 rfl rfl (J2 6 rfl K7 rfl d5 (A0 rfl) rfl rfl qz1) ?_
 refine C2 rfl rfl (K5 6 rfl (A0 rfl) rfl Tryz.isAgg79 qz1 rfl) ?_
 refine R1 ?_
 refine C2 rfl rfl (T1 6 rfl (A0 rfl) rfl qz1 rfl) ?_
 refine C2 rfl rfl (J2 6 rfl K7 rfl O0 (A0 rfl) rfl rfl qz1) ?_
 refine C2 rfl rfl (K5 6 rfl (A0 rfl) rfl Z2 qz1 rfl) ?_
 refine R1 ?_
 refine C2 rfl rfl (AA6 rfl F7 K1 (A0 rfl) (A0 rfl) Ai3 (by rw [A5, Int.toNat_natCast]; exact L9 hk)) ?_
 refine R4 ?_
 refine AWP.le (C1 [0, 0, 0, 0, 0, 0, 0, 0] rfl) ?_
 refine AWP.le (O2 7 (t := nin A3.ow w.Txns T ++ nin A2.ow w.Looks L) ((Au5 hlk hz).symm)) ?_
 refine I5 w8 ?_
 refine R7 ?_
 refine A4 rfl (B2 rfl Tryz.call170 rfl (hpart) (A1 (A0 rfl) (A1 (A0 rfl) A7))) ?_
 refine R11 ?_
 refine C2 rfl rfl (D7 2 rfl G8 C9 (A0 rfl) rfl (A0 rfl) qz8 Bd6) ?_
 refine C2 rfl rfl (X5 2 rfl (A0 rfl) rfl K3 C9 qz5 D0) ?_
 refine C2 rfl rfl (B2 rfl Tryz.call200 rfl (j3 gi hgi.good) (A1 (A0 rfl) A7)) ?_
 refine R4 ?_
 refine M6 rfl (V7 rfl rfl rfl) (fun hc => X6 [0, 0, 0, 0, 0, 0, 0] 0 (nin A3.ow w.Txns T ++ nin A2.ow w.Looks L) ([]) rfl Tryz.call202 rfl rfl (B8) (AM1 b w X T L (p : Int) gi hx qz8 hgi.good (k6 (by simpa using hc))) (A1 (B1 rfl hc) (A1 (B1 rfl hc) A7))) ?_
 refine R2 ?_
 refine M6 rfl (V7 rfl rfl rfl) (fun hc => T1 6 rfl (B1 rfl hc) rfl qz1 rfl) ?_
 refine M6 rfl (V7 rfl rfl rfl) (fun hc => J2 6 rfl K7 rfl B4 (B1 rfl hc) rfl rfl qz1) ?_
 refine M6 rfl (V7 rfl rfl rfl) (fun hc => K5 6 rfl (B1 rfl hc) rfl H3 qz1 rfl) ?_
 refine M6 rfl (V7 rfl rfl rfl) (fun hc => B2 rfl Tryz.call201 rfl (At9 (leadSure gi) k lk.Time qz8) (A1 (B1 rfl hc) (A1 (B1 rfl hc) (A1 (B1 rfl hc) A7)))) ?_
 refine R6 ?_
 refine M6 rfl (V7 rfl rfl rfl) (fun hc => X6 [0, 0, 0, 0, 0, 0, 0] 0 (nin A3.ow w.Txns T ++ nin A2.ow w.Looks L) ([]) rfl Tryz.call180 rfl rfl (B8) (AA4 b w X T L (p : Int) gi hx qz8 hgi.good (k6 (by simp at hc; exact hc.1))) (A1 (B1 rfl hc) (A1 (B1 rfl hc) A7))) ?_
 refine R2 ?_
 refine M6 rfl (V7 rfl rfl rfl) (fun hc => T1 6 rfl (B1 rfl hc) rfl qz1 rfl) ?_
 refine M6 rfl (V7 rfl rfl rfl) (fun hc => J2 6 rfl K7 rfl B4 (B1 rfl hc) rfl rfl qz1) ?_
 refine M6 rfl (V7 rfl rfl rfl) (fun hc => K5 6 rfl (B1 rfl hc) rfl H3 qz1 rfl) ?_
 refine M6 rfl (V7 rfl rfl rfl) (fun hc => B2 rfl Tryz.call201 rfl (At9 (leadFull gi) k lk.Time qz8) (A1 (B1 rfl hc) (A1 (B1 rfl hc) (A1 (B1 rfl hc) A7)))) ?_
 refine R4 ?_
 refine A8 (A0 rfl) ?_ ?_
 ·intro h137
  refine R5 ?_
  exact H4 [0, 0, 0, 0, 0, 0, 0] 0 (nin A3.ow w.Txns T ++ nin A2.ow w.Looks L) [] (((w, false), L)) (BO2) rfl (show List.Perm (nin A3.ow w.Txns T ++ nin A2.ow w.Looks L) ((nin A3.ow w.Txns T ++ nin A2.ow w.Looks L) ++ []) from B8) BO3 (E6 rfl (A6 rfl B0))
 intro h137
 have hrd : q7 gi = true := (by simp at h137; exact h137.1.1)
 have hl := k6 hrd
 have hsk := hsk hl
 refine R2 ?_
 refine L6 20 F1 F1 rfl ?_
 refine R12 ?_
 refine C2 rfl rfl (D7 4 rfl B3 B4 (A0 rfl) rfl (A0 rfl) qz8 Bd6) ?_
 refine C2 rfl rfl (Q1 4 rfl (A0 rfl) rfl H3 (Au4 (g := AV.int) hpx)) ?_
 refine R1 ?_
 refine C2 rfl rfl (T1 6 rfl (A0 rfl) rfl qz1 rfl) ?_
 refine C2 rfl rfl (J2 6 rfl K7 rfl B4 (A0 rfl) rfl rfl qz1) ?_
 refine C2 rfl rfl (K5 6 rfl (A0 rfl) rfl H3 qz1 rfl) ?_
 refine C2 rfl rfl (B2 rfl Tryz.call23 rfl (Z1 _ _) (A1 (A0 rfl) (A1 (A0 rfl) A7))) ?_
 refine C2 rfl rfl (D7 4 rfl B3 B4 (A0 rfl) rfl (A0 rfl) qz8 Bd6) ?_
 refine R1 ?_
 refine N3 4 rfl rfl rfl (A0 rfl) (A0 rfl) (M5 _ _) rfl B4 rfl qz4 ?_
 refine R2 ?_
 refine I5 (show _ = WB b (AD4 w ((p : Nat) : Int).toNat (X2 pr lk.Time)) X T L from (by unfold WB AD4; dsimp only; rw [List.map_set]; rfl)) ?_
 refine R3 ?_
 refine C2 rfl rfl (X6 [0, 0, 0, 0, 0, 0, 0] 0 (nin A3.ow w.Txns T ++ nin A2.ow w.Looks L) ([]) rfl Tryz.call202 rfl rfl (B8) (hsk) (A1 (A0 rfl) (A1 (A0 rfl) A7))) ?_
 refine C2 rfl rfl (BG2 rfl d3 rfl Tryz.isAgg179 (A0 rfl) rfl) ?_
 refine R2 ?_
 refine C2 rfl rfl (T1 6 rfl (A0 rfl) rfl qz1 rfl) ?_
 refine C2 rfl rfl (J2 6 rfl K7 rfl B4 (A0 rfl) rfl rfl qz1) ?_
 refine C2 rfl rfl (K5 6 rfl (A0 rfl) rfl H3 qz1 rfl) ?_
 refine C2 rfl rfl (B2 rfl Tryz.call203 rfl (BA3 (leadSure gi).Cells k lk.Time qz8) (A1 (A0 rfl) (A1 (A0 rfl) (A1 (A0 rfl) A7)))) ?_
 refine R12 ?_
 refine A8 (A0 rfl) ?_ ?_
 ·intro h172
  obtain ⟨G, hG⟩ : ∃ G : G4, G = ⟨k, [], (cellAt (leadSure gi).Cells k lk.Time).2⟩ := ⟨_, rfl⟩
  have hGs : G.size ≤ 64 := (by rw [hG]; unfold G4.size; simp only [N1]; omega)
  refine R1 ?_
  refine A4 rfl (D4 rfl (L4 (l := []) rfl)) ?_
  refine R2 ?_
  refine AWP.le (O2 7 (t := ([Go.AV.Own.arr z 45 3 (lk.Got.map G4.cs)]) ++ (nin A2.ow (w.Looks.eraseIdx n.toNat) (L.eraseIdx n.toNat) ++ nin A3.ow w.Txns T)) (Au5 hlk hz)) ?_
  refine R3 ?_
  refine A4 rfl (T1 6 rfl (A0 rfl) rfl qz1 rfl) ?_
  refine A4 rfl (J2 6 rfl K7 rfl O0 (A0 rfl) rfl rfl qz1) ?_
  refine A4 rfl (K5 6 rfl (A0 rfl) rfl Z2 qz1 rfl) ?_
  refine R5 ?_
  refine G0 (by' := 40) 7 rfl rfl rfl rfl J6 Tryz.type45 rfl rfl rfl rfl rfl rfl (A0 rfl) (A0 rfl) rfl qz4 ?_
  intro v183_1
  refine A4 rfl (T1 6 rfl (A0 rfl) rfl qz1 rfl) ?_
  refine A4 rfl (J2 6 rfl K7 rfl O0 (A0 rfl) rfl rfl qz1) ?_
  refine S4 7 rfl fun one_v183_1 => ?_
  refine T3 6 rfl rfl rfl (A0 rfl) (A0 rfl) (M0 one_v183_1) rfl O0 qz1 rfl ?_
  refine R2 ?_
  refine I5 w8 ?_
  refine AWP.le (C1 [0, 0, 0, 0, 0, 0, 0, 0] rfl) ?_
  refine AWP.le (O2 7 (t := nin A3.ow w.Txns T ++ nin A2.ow (w.Looks.set n.toNat (j9 lk G)) (L.set n.toNat v183_1)) ((AH0 (b := [Go.AV.Own.arr v183_1 45 3 ((lk.Got ++ [G]).map G4.cs)] ++ (nin A2.ow (w.Looks.eraseIdx n.toNat) (L.eraseIdx n.toNat) ++ nin A3.ow w.Txns T)) Bd1 (lk_put (w := w) (T := T) (p' := j9 lk G) (y' := v183_1) hlk hz)))) ?_
  refine R4 ?_
  exact H4 [0, 0, 0, 0, 0, 0, 0] 0 (nin A3.ow w.Txns T ++ nin A2.ow (w.Looks.set n.toNat (j9 lk G)) (L.set n.toNat v183_1)) [] (((wLook (AD4 w ((p : Nat) : Int).toNat (X2 pr lk.Time)) n.toNat (j9 lk G), true), L.set n.toNat v183_1)) (BO2) rfl (show List.Perm (nin A3.ow w.Txns T ++ nin A2.ow (w.Looks.set n.toNat (j9 lk G)) (L.set n.toNat v183_1)) ((nin A3.ow w.Txns T ++ nin A2.ow (w.Looks.set n.toNat (j9 lk G)) (L.set n.toNat v183_1)) ++ []) from B8) BO3 (E6 rfl (A6 rfl B0))
 intro h172
 obtain ⟨G, hG⟩ : ∃ G : G4, G = ⟨k, (cellAt (leadSure gi).Cells k lk.Time).1, (cellAt (leadSure gi).Cells k lk.Time).2⟩ := ⟨_, rfl⟩
 have hGs : G.size ≤ 64 := (by rw [hG]; unfold G4.size; dsimp only; omega)
 refine R2 ?_
 refine AWP.le (O2 7 (t := ([Go.AV.Own.arr z 45 3 (lk.Got.map G4.cs)]) ++ (nin A2.ow (w.Looks.eraseIdx n.toNat) (L.eraseIdx n.toNat) ++ nin A3.ow w.Txns T)) (Au5 hlk hz)) ?_
 refine R3 ?_
 refine A4 rfl (T1 6 rfl (A0 rfl) rfl qz1 rfl) ?_
 refine A4 rfl (J2 6 rfl K7 rfl O0 (A0 rfl) rfl rfl qz1) ?_
 refine A4 rfl (K5 6 rfl (A0 rfl) rfl Z2 qz1 rfl) ?_
 refine R5 ?_
 refine G0 (by' := 40) 7 rfl rfl rfl rfl J6 Tryz.type45 rfl rfl rfl rfl rfl rfl (A0 rfl) (A0 rfl) rfl qz4 ?_
 intro v183_2
 refine A4 rfl (T1 6 rfl (A0 rfl) rfl qz1 rfl) ?_
 refine A4 rfl (J2 6 rfl K7 rfl O0 (A0 rfl) rfl rfl qz1) ?_
 refine S4 7 rfl fun one_v183_2 => ?_
 refine T3 6 rfl rfl rfl (A0 rfl) (A0 rfl) (M0 one_v183_2) rfl O0 qz1 rfl ?_
 refine R2 ?_
 refine I5 w8 ?_
 refine AWP.le (C1 [0, 0, 0, 0, 0, 0, 0, 0] rfl) ?_
 refine AWP.le (O2 7 (t := nin A3.ow w.Txns T ++ nin A2.ow (w.Looks.set n.toNat (j9 lk G)) (L.set n.toNat v183_2)) ((AH0 (b := [Go.AV.Own.arr v183_2 45 3 ((lk.Got ++ [G]).map G4.cs)] ++ (nin A2.ow (w.Looks.eraseIdx n.toNat) (L.eraseIdx n.toNat) ++ nin A3.ow w.Txns T)) Bd1 (lk_put (w := w) (T := T) (p' := j9 lk G) (y' := v183_2) hlk hz)))) ?_
 refine R4 ?_
 exact H4 [0, 0, 0, 0, 0, 0, 0] 0 (nin A3.ow w.Txns T ++ nin A2.ow (w.Looks.set n.toNat (j9 lk G)) (L.set n.toNat v183_2)) [] (((wLook (AD4 w ((p : Nat) : Int).toNat (X2 pr lk.Time)) n.toNat (j9 lk G), true), L.set n.toNat v183_2)) (BO2) rfl (show List.Perm (nin A3.ow w.Txns T ++ nin A2.ow (w.Looks.set n.toNat (j9 lk G)) (L.set n.toNat v183_2)) ((nin A3.ow w.Txns T ++ nin A2.ow (w.Looks.set n.toNat (j9 lk G)) (L.set n.toNat v183_2)) ++ []) from B8) BO3 (E6 rfl (A6 rfl B0))
end Go.Proofs.YtcfkbhnpfjjmjaaGreat
namespace Go.M
open Go.AV
def Ay1 (t : A3) : A3 := { t with Stopped := true }
theorem wf_stop {w : TWorld} (hw : WI w) {i : Nat} {t : A3} (ht : w.Txns[i]? = some t) : WF w (wTxn w i (Ay1 t)) := by
  have h := hw.txns.2 t (C6 ht)
  have h2 := AT9 hw (i := i) (t := Ay1 t) ⟨h.terms, h.ops, h.got, h.span⟩
  exact ⟨h2.1, h2.2, rfl, rfl⟩
def Y3 (a : S5) : Prop := (-1000 ≤ a.At ∧ a.At ≤ 1000) ∧ -1000 ≤ a.By ∧ a.By ≤ 1000
end Go.M
namespace Go.Proofs.YtcfkbhnpfjjmjaaGreat
open Go Go.AV Go.M
attribute [local irreducible] OpW OpA OpS AWP B9 J5 C8 OpE RetOk H1 I9 Le Ev F6 J9 V9 Int.tmod Int.tdiv IntKind.wrap bandI
theorem An7 (b : Nat) (w : TWorld) (X : WX) (T : List (Value × Value)) (L : List Value) (a : S5) (hw : WI w) (ha : Y3 a) : C8 Tryz.prog 183 [AV.ptr b 0, AV.agg a.cs] (WB b w X T L) (fun v : TWorld × Bool => v.2 = true → WI v.1 ∧ WS w v.1) (fun v => WB b v.1 X T L) (fun v => AV.bool v.2) := by
 have hng := hw.n
 have hcl := hw.clocks.1
 obtain ⟨⟨ha1, ha2⟩, hb1, hb2⟩ := ha
 refine C3 Tryz.func183 rfl Tryz.ntmps183 rfl ?_
 refine R3 ?_
 intro b3
 refine R14 ?_
 refine C2 rfl rfl (B2 rfl Tryz.call30 rfl (N5 _ _ _) (A1 (A0 rfl) (A1 D8 (A1 (A0 rfl) A7)))) ?_
 refine R2 ?_
 refine A8 (A0 rfl) ?_ ?_
 ·intro h22
  refine R5 ?_
  exact H4 [1, 1, 1, 1, 1, 1, 1] 1 (nin A3.ow w.Txns T ++ nin A2.ow w.Looks L) [] ((w, false)) (qz23) rfl (show List.Perm (nin A3.ow w.Txns T ++ nin A2.ow w.Looks L) ((nin A3.ow w.Txns T ++ nin A2.ow w.Looks L) ++ []) from B8) qz61 (E6 rfl (A6 rfl B0))
 intro h22
 have hin : 0 ≤ a.At ∧ a.At < 3 * (w.Groups.length : Int) := (by simp only [A5] at h22; have h9 : within a.At 0 ((w.Clocks.length : Int) - 1) = true := Ai1; unfold within at h9; rw [Bool.and_eq_true, decide_eq_true_eq, decide_eq_true_eq] at h9; omega)
 obtain ⟨q, hq⟩ : ∃ q : Int, Int.tdiv a.At 3 = q := ⟨_, rfl⟩
 obtain ⟨m, hm⟩ : ∃ m : Int, Int.tmod a.At 3 = m := ⟨_, rfl⟩
 obtain ⟨h0, hql, hm0, hm3, hnq⟩ := third hin hq hm
 obtain ⟨gi, hx⟩ := get_some (show q.toNat < w.Groups.length by omega)
 have hgi := hw.groups gi (C6 hx)
 have hvs := Ah5 hgi.good
 have hwq : IntKind.i64.wrap q = q := Ae8 qz8
 obtain ⟨c, hcx⟩ := get_some (show a.At.toNat < w.Clocks.length by omega)
 refine R5 ?_
 refine A4 rfl (w_quo rfl (A0 rfl) D8 qz4) ?_
 refine R3 ?_
 simp only [hq, hwq]
 refine R2 ?_
 intro b6
 refine R17 ?_
 refine A8 (A0 rfl) ?_ ?_
 ·intro h45
  have k45 := D2 h45; try simp only [A5] at k45
  refine R1 ?_
  refine L6 12 F1 F1 rfl ?_
  refine R11 ?_
  refine C2 rfl rfl (D7 3 rfl S7 s0 (A0 rfl) rfl (A0 rfl) qz8 g9) ?_
  refine R1 ?_
  refine N3 3 rfl rfl rfl (A0 rfl) (A0 rfl) (U4 _) rfl s0 rfl qz4 ?_
  refine R5 ?_
  refine A4 rfl (B2 rfl Tryz.call30 rfl (N5 _ _ _) (A1 (A0 rfl) (A1 D8 (A1 D8 A7)))) ?_
  refine R3 ?_
  exact H4 [2, 2, 2, 2, 2, 2, 2] 2 (nin A3.ow w.Txns T ++ nin A2.ow w.Looks L) [] ((BM6 w a.At.toNat ⟨a.By - 5⟩, within a.By 0 10)) (qz23) rfl (show List.Perm (nin A3.ow w.Txns T ++ nin A2.ow w.Looks L) ((nin A3.ow w.Txns T ++ nin A2.ow w.Looks L) ++ []) from B8) qz61 (E6 rfl (A6 rfl B0))
 intro h45
 have k45 := D6 h45; try simp only [A5] at k45
 refine R5 ?_
 refine A8 (A0 rfl) ?_ ?_
 ·intro h62
  have k62 := D2 h62; try simp only [A5] at k62
  refine R5 ?_
  refine I2 [2, 2, 2, 2, 2, 2, 2] 2 7 (nin A3.ow w.Txns T ++ nin A2.ow w.Looks L) ([]) (fun zz => nin A3.ow zz.1.Txns T ++ nin A2.ow zz.1.Looks L) rfl rfl rfl rfl Tryz.call165 rfl rfl (show List.Perm (nin A3.ow w.Txns T ++ nin A2.ow w.Looks L) ((nin A3.ow w.Txns T ++ nin A2.ow w.Looks L) ++ ([])) from B8) (BW9 b w X T L a.At hw hin) (A1 (A0 rfl) (A1 (A0 rfl) A7)) (fun a => K0) ?_
  intro x67 ok67
  refine R3 ?_
  exact H4 [0, 0, 0, 0, 0, 0, 0] 2 (nin A3.ow x67.1.Txns T ++ nin A2.ow x67.1.Looks L) [] ((x67.1, x67.2)) (qz23) rfl (show List.Perm (nin A3.ow x67.1.Txns T ++ nin A2.ow x67.1.Looks L) ((nin A3.ow x67.1.Txns T ++ nin A2.ow x67.1.Looks L) ++ []) from B8) qz61 (E6 rfl (A6 rfl B0))
 intro h62
 have k62 := D6 h62; try simp only [A5] at k62
 refine R5 ?_
 refine A8 (A0 rfl) ?_ ?_
 ·intro h68
  have k68 := D2 h68; try simp only [A5] at k68
  refine R1 ?_
  refine P5 _ 17 (.pure 0 (.pure 1 (.pure 2 (.pure 3 (.pure 4 (.pure 5 (.pure 6 (.pure 7 (.pure 8 (.pure 9 (.pure 10 (.pure 11 (.pure 12 (.pure 13 (.pure 14 (.e1 15 (.e1 16 .nil))))))))))))))))) F1 F1 rfl (P1 9) ?_
  refine R6 ?_
  refine J0 rfl rfl rfl (fun ext => D7 4 rfl G8 C9 (A0 rfl) rfl (A0 rfl) qz8 g9) ?_
  refine J0 rfl rfl rfl (fun ext => X5 4 rfl (A0 rfl) rfl K3 C9 qz5 D0) ?_
  refine R2 ?_
  refine J0 rfl rfl rfl (fun ext => Aj5 rfl (A0 rfl) D8 qz4) ?_
  simp only [hm]
  refine J0 rfl rfl rfl (fun ext => B2 rfl Tryz.call192 rfl (Ba7 gi m qz8) (A1 (A0 rfl) (A1 (A0 rfl) A7))) ?_
  refine R4 ?_
  refine E1 rfl rfl rfl (Y6 9 <| Q6 rfl Tryz.zeroValue178 rfl) (fun a _ => qz3) ?_
  intro b8 _
  refine R1 ?_
  refine W1 rfl rfl rfl (U5 9 rfl rfl (A0 rfl) (A0 rfl) (U4 _) rfl C9 rfl) (fun a _ => qz3) ?_
  intro _ _
  refine R13 ?_
  refine L6 8 F1 F1 rfl ?_
  refine R7 ?_
  refine C2 rfl rfl (D7 4 rfl G8 C9 (A0 rfl) rfl (A0 rfl) qz8 g9) ?_
  refine R1 ?_
  refine N3 4 rfl rfl rfl (A0 rfl) (A0 rfl) (U4 _) rfl C9 rfl qz4 ?_
  refine R7 ?_
  exact H4 [2, 2, 2, 2, 2, 2, 2] 3 (nin A3.ow w.Txns T ++ nin A2.ow w.Looks L) [] ((wGroup w q.toNat (crashR gi m).1, (crashR gi m).2)) (qz23) rfl (show List.Perm (nin A3.ow w.Txns T ++ nin A2.ow w.Looks L) ((nin A3.ow w.Txns T ++ nin A2.ow w.Looks L) ++ []) from B8) qz61 (E6 rfl (A6 rfl B0))
 intro h68
 have k68 := D6 h68; try simp only [A5] at k68
 refine R1 ?_
 refine P5 _ 17 (.pure 0 (.pure 1 (.pure 2 (.pure 3 (.pure 4 (.pure 5 (.pure 6 (.pure 7 (.pure 8 (.pure 9 (.pure 10 (.pure 11 (.pure 12 (.pure 13 (.pure 14 (.e1 15 (.e1 16 .nil))))))))))))))))) F1 F1 rfl (P1 9) ?_
 refine R6 ?_
 refine J0 rfl rfl rfl (fun ext => D7 4 rfl G8 C9 (A0 rfl) rfl (A0 rfl) qz8 g9) ?_
 refine J0 rfl rfl rfl (fun ext => X5 4 rfl (A0 rfl) rfl K3 C9 qz5 D0) ?_
 refine R2 ?_
 refine J0 rfl rfl rfl (fun ext => Aj5 rfl (A0 rfl) D8 qz4) ?_
 simp only [hm]
 refine J0 rfl rfl rfl (fun ext => B2 rfl Tryz.call193 rfl (Ba8 gi m qz8) (A1 (A0 rfl) (A1 (A0 rfl) A7))) ?_
 refine R4 ?_
 refine E1 rfl rfl rfl (Y6 9 <| Q6 rfl Tryz.zeroValue178 rfl) (fun a _ => qz3) ?_
 intro b10 _
 refine R1 ?_
 refine W1 rfl rfl rfl (U5 9 rfl rfl (A0 rfl) (A0 rfl) (U4 _) rfl C9 rfl) (fun a _ => qz3) ?_
 intro _ _
 refine R13 ?_
 refine L6 8 F1 F1 rfl ?_
 refine R7 ?_
 refine C2 rfl rfl (D7 4 rfl G8 C9 (A0 rfl) rfl (A0 rfl) qz8 g9) ?_
 refine R1 ?_
 refine N3 4 rfl rfl rfl (A0 rfl) (A0 rfl) (U4 _) rfl C9 rfl qz4 ?_
 refine R7 ?_
 exact H4 [2, 2, 2, 2, 2, 2, 2] 3 (nin A3.ow w.Txns T ++ nin A2.ow w.Looks L) [] ((wGroup w q.toNat (startR gi m).1, (startR gi m).2)) (qz23) rfl (show List.Perm (nin A3.ow w.Txns T ++ nin A2.ow w.Looks L) ((nin A3.ow w.Txns T ++ nin A2.ow w.Looks L) ++ []) from B8) qz61 (E6 rfl (A6 rfl B0))
theorem BQ6 (b : Nat) (w : TWorld) (X : WX) (T : List (Value × Value)) (L : List Value) (a : S5) (hw : WI w) (hc9 : ∀ x ∈ w.Txns, x.Begin < w.Count) (hT : T.length = w.Txns.length) (ha : Y3 a) : C8 Tryz.prog 185 [AV.ptr b 0, AV.agg a.cs] (WB b w X T L) (fun v : (TWorld × Bool) × List (Value × Value) => (WI v.1.1 ∧ WS w v.1.1) ∧ v.2.length = T.length) (fun v => WB b v.1.1 X v.2 L) (fun v => AV.bool v.1.2) := by
 have hng := hw.n
 have htn := hw.txns.1
 obtain ⟨⟨ha1, ha2⟩, hb1, hb2⟩ := ha
 have hnl := S8 (ocs := A3.ocs) hT
 refine C3 Tryz.func185 rfl Tryz.ntmps185 rfl ?_
 refine R3 ?_
 intro b3
 refine R14 ?_
 refine C2 rfl rfl (B2 rfl Tryz.call30 rfl (N5 _ _ _) (A1 (A0 rfl) (A1 D8 (A1 (A0 rfl) A7)))) ?_
 refine R2 ?_
 refine A8 (A0 rfl) ?_ ?_
 ·intro h16
  refine R5 ?_
  exact H4 [1, 1, 1, 1, 1, 1, 1] 1 (nin A3.ow w.Txns T ++ nin A2.ow w.Looks L) [] (((w, false), T)) (qz52) rfl (show List.Perm (nin A3.ow w.Txns T ++ nin A2.ow w.Looks L) ((nin A3.ow w.Txns T ++ nin A2.ow w.Looks L) ++ []) from B8) B0 (E6 rfl (A6 rfl B0))
 intro h16
 have hin : 0 ≤ a.At ∧ a.At.toNat < w.Txns.length := (by rw [S8 hT] at h16; have h9 : within a.At 0 ((w.Txns.length : Int) - 1) = true := Aw0; unfold within at h9; rw [Bool.and_eq_true, decide_eq_true_eq, decide_eq_true_eq] at h9; omega)
 obtain ⟨tx, htx⟩ := get_some hin.2
 obtain ⟨y, hy⟩ := get_some (show a.At.toNat < T.length by omega)
 have hat : 1 ≤ a.At + 1 ∧ (a.At + 1 - 1).toNat < w.Txns.length := ⟨by omega, by rw [show a.At + 1 - 1 = a.At by omega]; exact hin.2⟩
 refine R10 ?_
 refine C2 rfl rfl (D7 6 rfl K4 O6 (A0 rfl) rfl (A0 rfl) qz8 (by rw [S8 hT]; omega)) ?_
 refine R14 ?_
 refine A8 (A0 rfl) ?_ ?_
 ·intro h27
  have k27 := D2 h27; try simp only [A5] at k27
  refine R6 ?_
  refine I2 [1, 1, 1, 1, 1, 1, 1] 1 7 (nin A3.ow w.Txns T ++ nin A2.ow w.Looks L) ([]) (fun zz => nin A3.ow zz.1.1.Txns zz.2 ++ nin A2.ow zz.1.1.Looks L) rfl rfl rfl rfl Tryz.call196 rfl rfl (show List.Perm (nin A3.ow w.Txns T ++ nin A2.ow w.Looks L) ((nin A3.ow w.Txns T ++ nin A2.ow w.Looks L) ++ ([])) from B8) (goOn_own b w X T L (a.At + 1) hw hc9 hT hat) (A1 (A0 rfl) (A1 (A0 rfl) A7)) (fun a => K0) ?_
  intro x33 ok33
  refine R3 ?_
  exact H4 [0, 0, 0, 0, 0, 0, 0] 1 (nin A3.ow x33.1.1.Txns x33.2 ++ nin A2.ow x33.1.1.Looks L) [] (((x33.1.1, x33.1.2), x33.2)) (qz52) rfl (show List.Perm (nin A3.ow x33.1.1.Txns x33.2 ++ nin A2.ow x33.1.1.Looks L) ((nin A3.ow x33.1.1.Txns x33.2 ++ nin A2.ow x33.1.1.Looks L) ++ []) from B8) B0 (E6 rfl (A6 rfl B0))
 intro h27
 have k27 := D6 h27; try simp only [A5] at k27
 refine R5 ?_
 refine A8 (A0 rfl) ?_ ?_
 ·intro h34
  have k34 := D2 h34; try simp only [A5] at k34
  refine R6 ?_
  refine I2 [1, 1, 1, 1, 1, 1, 1] 1 7 (nin A3.ow w.Txns T ++ nin A2.ow w.Looks L) ([]) (fun zz => nin A3.ow zz.1.Txns T ++ nin A2.ow zz.1.Looks L) rfl rfl rfl rfl Tryz.call197 rfl rfl (show List.Perm (nin A3.ow w.Txns T ++ nin A2.ow w.Looks L) ((nin A3.ow w.Txns T ++ nin A2.ow w.Looks L) ++ ([])) from B8) (BL0 b w X T L (a.At + 1) hw) (A1 (A0 rfl) (A1 (A0 rfl) A7)) (fun a => K0) ?_
  intro x40 ok40
  refine R3 ?_
  exact H4 [0, 0, 0, 0, 0, 0, 0] 1 (nin A3.ow x40.1.Txns T ++ nin A2.ow x40.1.Looks L) [] (((x40.1, x40.2), T)) (qz52) rfl (show List.Perm (nin A3.ow x40.1.Txns T ++ nin A2.ow x40.1.Looks L) ((nin A3.ow x40.1.Txns T ++ nin A2.ow x40.1.Looks L) ++ []) from B8) B0 (E6 rfl (A6 rfl B0))
 intro h34
 have k34 := D6 h34; try simp only [A5] at k34
 refine R5 ?_
 refine A4 rfl (T1 6 rfl (A0 rfl) rfl qz2 rfl) ?_
 refine A4 rfl (J2 6 rfl H8 rfl O9 (A0 rfl) rfl rfl qz2) ?_
 refine A4 rfl (K5 6 rfl (A0 rfl) rfl e8 qz2 rfl) ?_
 refine R2 ?_
 refine P4 rfl (fun hc => T1 6 rfl (B1 rfl hc) rfl qz2 rfl) ?_
 refine P4 rfl (fun hc => J2 6 rfl H8 rfl B4 (B1 rfl hc) rfl rfl qz2) ?_
 refine P4 rfl (fun hc => K5 6 rfl (B1 rfl hc) rfl H3 qz2 rfl) ?_
 refine R3 ?_
 refine A8 (A0 rfl) ?_ ?_
 ·intro h51
  refine R5 ?_
  exact H4 [1, 1, 1, 1, 1, 1, 1] 1 (nin A3.ow w.Txns T ++ nin A2.ow w.Looks L) [] (((w, false), T)) (qz52) rfl (show List.Perm (nin A3.ow w.Txns T ++ nin A2.ow w.Looks L) ((nin A3.ow w.Txns T ++ nin A2.ow w.Looks L) ++ []) from B8) B0 (E6 rfl (A6 rfl B0))
 intro h51
 have hwf := wf_stop hw htx
 obtain ⟨W', hW⟩ : ∃ W', wTxn w a.At.toNat (Ay1 tx) = W' := ⟨_, rfl⟩
 rw [hW] at hwf
 have hfr := An4 b W' X T L (a.At + 1) hwf.wi
 refine R4 ?_
 refine A4 rfl (T1 6 rfl (A0 rfl) rfl qz2 rfl) ?_
 refine A4 rfl (J2 6 rfl H8 rfl O9 (A0 rfl) rfl rfl qz2) ?_
 refine T3 6 rfl rfl rfl (A0 rfl) w5 (y7 _) rfl O9 qz2 rfl ?_
 refine R2 ?_
 refine I5 (show _ = Go.AV.Own.box b3 173 a.cs :: WB b W' X T L from (by rw [← hW]; unfold WB wTxn; dsimp only; rw [l4 htx hy, AF2 (p' := Ay1 tx) htx (fun _ => rfl)]; rfl)) ?_
 refine R5 ?_
 refine I2 [1, 1, 1, 1, 1, 1, 1] 1 7 (nin A3.ow W'.Txns T ++ nin A2.ow W'.Looks L) ([]) (fun zz => nin A3.ow W'.Txns T ++ nin A2.ow W'.Looks L) rfl rfl rfl rfl Tryz.call198 rfl rfl (show List.Perm (nin A3.ow W'.Txns T ++ nin A2.ow W'.Looks L) ((nin A3.ow W'.Txns T ++ nin A2.ow W'.Looks L) ++ ([])) from B8) (hfr) (A1 (A0 rfl) (A1 (A0 rfl) A7)) (fun a => K0) ?_
 intro x59 ok59
 refine R6 ?_
 exact H4 [0, 0, 0, 0, 0, 0, 0] 1 (nin A3.ow W'.Txns T ++ nin A2.ow W'.Looks L) [] (((t6 W' x59, true), T)) (qz52) rfl (show List.Perm (nin A3.ow W'.Txns T ++ nin A2.ow W'.Looks L) ((nin A3.ow W'.Txns T ++ nin A2.ow W'.Looks L) ++ []) from B8) B0 (E6 rfl (A6 rfl B0))
end Go.Proofs.YtcfkbhnpfjjmjaaGreat
namespace Go.M
open Go.AV
theorem CD0 (b : Bool) : ¬ (b && false) = true := by cases b <;> decide
def DoOk (w v : TWorld) (T' : List (Value × Value)) (L' : List Value) : Prop := WI v ∧ (v.Count = w.Count ∧ w.Count < 1000000) ∧ T'.length = v.Txns.length ∧ L'.length = v.Looks.length
end Go.M
namespace Go.Proofs.YtcfkbhnpfjjmjaaGreat
open Go Go.AV Go.M
attribute [local irreducible] OpW OpA OpS AWP B9 J5 C8 OpE RetOk H1 I9 Le Ev F6 J9 V9 Int.tmod Int.tdiv IntKind.wrap bandI
theorem Be0 {w v : TWorld} {T T' : List (Value × Value)} {L L' : List Value} (hT : T.length = w.Txns.length) (hL : L.length = w.Looks.length) (h : WI v ∧ WS w v) (h1 : T'.length = T.length) (h2 : L'.length = L.length) (hc : w.Count < 1000000) : DoOk w v T' L' := ⟨h.1, ⟨h.2.count, hc⟩, by rw [h1, hT, h.2.txns], by rw [h2, hL, h.2.looks]⟩
theorem do_own (b : Nat) (w : TWorld) (X : WX) (T : List (Value × Value)) (L : List Value) (a : S5) (hw : WI w) (hq : WQ w) (hT : T.length = w.Txns.length) (hL : L.length = w.Looks.length) (ha : Y3 a) : C8 Tryz.prog 167 [AV.ptr b 0, AV.agg a.cs] (WB b w X T L) (fun v : (TWorld × Bool) × List (Value × Value) × List Value => v.1.2 = true → DoOk w v.1.1 v.2.1 v.2.2) (fun v => WB b v.1.1 X v.2.1 v.2.2) (fun v => AV.bool v.1.2) := by
 have hng := hw.n
 have hnw := hw.now
 obtain ⟨⟨ha1, ha2⟩, hb1, hb2⟩ := id ha
 have hln := hw.looks.1
 have hnL := S8 (ocs := A2.ocs) hL
 have hself : WI w ∧ WS w w := ⟨hw, WS.refl w⟩
 refine C3 Tryz.func167 rfl Tryz.ntmps167 rfl ?_
 refine R3 ?_
 intro b3
 refine R22 ?_
 refine A8 (A0 rfl) ?_ ?_
 ·intro h20
  refine R5 ?_
  exact H4 [1, 1, 1, 1, 1, 1, 1] 1 (nin A3.ow w.Txns T ++ nin A2.ow w.Looks L) [] (((w, false), T, L)) (qz7) rfl (show List.Perm (nin A3.ow w.Txns T ++ nin A2.ow w.Looks L) ((nin A3.ow w.Txns T ++ nin A2.ow w.Looks L) ++ []) from B8) B0 (E6 rfl (A6 rfl B0))
 intro h20
 have hcn : w.Count < 1000000 := (by have h9 := hw.count.2; simp at h20; omega)
 refine R13 ?_
 refine A8 (A0 rfl) ?_ ?_
 ·intro h23
  have k23 := D2 h23; try simp only [A5] at k23
  refine R1 ?_
  refine L6 11 F1 F1 rfl ?_
  refine R18 ?_
  refine A4 rfl (B2 rfl Tryz.call30 rfl (N5 _ _ _) (A1 (A0 rfl) (A1 D8 (A1 D8 A7)))) ?_
  refine R11 ?_
  exact H4 [1, 1, 1, 1, 1, 1, 1] 1 (nin A3.ow w.Txns T ++ nin A2.ow w.Looks L) [] ((({ w with Now := w.Now + a.At }, within a.At 1 20 && decide (w.Now + a.At ≤ 100000)), T, L)) (qz7) rfl (show List.Perm (nin A3.ow w.Txns T ++ nin A2.ow w.Looks L) ((nin A3.ow w.Txns T ++ nin A2.ow w.Looks L) ++ []) from B8) B0 (E6 rfl (A6 rfl B0))
 intro h23
 have k23 := D6 h23; try simp only [A5] at k23
 refine R6 ?_
 refine A8 (A0 rfl) ?_ ?_
 ·intro h47
  have k47 := D2 h47; try simp only [A5] at k47
  refine R1 ?_
  refine A8 (A0 rfl) ?_ ?_
  ·intro h47
   have k47 := D2 h47; try simp only [A5] at k47
   refine R4 ?_
   refine I2 [1, 1, 1, 1, 1, 1, 1] 1 7 (nin A3.ow w.Txns T ++ nin A2.ow w.Looks L) ([]) (fun zz => nin A3.ow zz.1.Txns T ++ nin A2.ow zz.1.Looks L) rfl rfl rfl rfl Tryz.call183 rfl rfl (show List.Perm (nin A3.ow w.Txns T ++ nin A2.ow w.Looks L) ((nin A3.ow w.Txns T ++ nin A2.ow w.Looks L) ++ ([])) from B8) (An7 b w X T L a hw ha) (A1 (A0 rfl) (A1 (A0 rfl) A7)) (fun a => K0) ?_
   intro x54 ok54
   refine R3 ?_
   exact H4 [0, 0, 0, 0, 0, 0, 0] 1 (nin A3.ow x54.1.Txns T ++ nin A2.ow x54.1.Looks L) [] (((x54.1, x54.2), T, L)) (qz7) rfl (show List.Perm (nin A3.ow x54.1.Txns T ++ nin A2.ow x54.1.Looks L) ((nin A3.ow x54.1.Txns T ++ nin A2.ow x54.1.Looks L) ++ []) from B8) B0 (E6 rfl (A6 rfl B0))
  intro hz9; rw [h47] at hz9; cases hz9
 intro h47
 have k47 := D6 h47; try simp only [A5] at k47
 refine R5 ?_
 refine A8 (A0 rfl) ?_ ?_
 ·intro h47
  have k47 := D2 h47; try simp only [A5] at k47
  refine R1 ?_
  refine A8 (A0 rfl) ?_ ?_
  ·intro h47
   have k47 := D2 h47; try simp only [A5] at k47
   refine R4 ?_
   refine I2 [1, 1, 1, 1, 1, 1, 1] 1 7 (nin A3.ow w.Txns T ++ nin A2.ow w.Looks L) ([]) (fun zz => nin A3.ow zz.1.Txns T ++ nin A2.ow zz.1.Looks L) rfl rfl rfl rfl Tryz.call183 rfl rfl (show List.Perm (nin A3.ow w.Txns T ++ nin A2.ow w.Looks L) ((nin A3.ow w.Txns T ++ nin A2.ow w.Looks L) ++ ([])) from B8) (An7 b w X T L a hw ha) (A1 (A0 rfl) (A1 (A0 rfl) A7)) (fun a => K0) ?_
   intro x54 ok54
   refine R3 ?_
   exact H4 [0, 0, 0, 0, 0, 0, 0] 1 (nin A3.ow x54.1.Txns T ++ nin A2.ow x54.1.Looks L) [] (((x54.1, x54.2), T, L)) (qz7) rfl (show List.Perm (nin A3.ow x54.1.Txns T ++ nin A2.ow x54.1.Looks L) ((nin A3.ow x54.1.Txns T ++ nin A2.ow x54.1.Looks L) ++ []) from B8) B0 (E6 rfl (A6 rfl B0))
  intro hz9; rw [h47] at hz9; cases hz9
 intro h47
 have k47 := D6 h47; try simp only [A5] at k47
 refine R5 ?_
 refine A8 (A0 rfl) ?_ ?_
 ·intro h47
  have k47 := D2 h47; try simp only [A5] at k47
  refine R1 ?_
  refine A8 (A0 rfl) ?_ ?_
  ·intro h47
   have k47 := D2 h47; try simp only [A5] at k47
   refine R4 ?_
   refine I2 [1, 1, 1, 1, 1, 1, 1] 1 7 (nin A3.ow w.Txns T ++ nin A2.ow w.Looks L) ([]) (fun zz => nin A3.ow zz.1.Txns T ++ nin A2.ow zz.1.Looks L) rfl rfl rfl rfl Tryz.call183 rfl rfl (show List.Perm (nin A3.ow w.Txns T ++ nin A2.ow w.Looks L) ((nin A3.ow w.Txns T ++ nin A2.ow w.Looks L) ++ ([])) from B8) (An7 b w X T L a hw ha) (A1 (A0 rfl) (A1 (A0 rfl) A7)) (fun a => K0) ?_
   intro x54 ok54
   refine R3 ?_
   exact H4 [0, 0, 0, 0, 0, 0, 0] 1 (nin A3.ow x54.1.Txns T ++ nin A2.ow x54.1.Looks L) [] (((x54.1, x54.2), T, L)) (qz7) rfl (show List.Perm (nin A3.ow x54.1.Txns T ++ nin A2.ow x54.1.Looks L) ((nin A3.ow x54.1.Txns T ++ nin A2.ow x54.1.Looks L) ++ []) from B8) B0 (E6 rfl (A6 rfl B0))
  intro hz9; rw [h47] at hz9; cases hz9
 intro h47
 have k47 := D6 h47; try simp only [A5] at k47
 refine R4 ?_
 refine A8 (A0 rfl) ?_ ?_
 ·intro h47
  have k47 := D2 h47; try simp only [A5] at k47
  refine R4 ?_
  refine I2 [1, 1, 1, 1, 1, 1, 1] 1 7 (nin A3.ow w.Txns T ++ nin A2.ow w.Looks L) ([]) (fun zz => nin A3.ow zz.1.Txns T ++ nin A2.ow zz.1.Looks L) rfl rfl rfl rfl Tryz.call183 rfl rfl (show List.Perm (nin A3.ow w.Txns T ++ nin A2.ow w.Looks L) ((nin A3.ow w.Txns T ++ nin A2.ow w.Looks L) ++ ([])) from B8) (An7 b w X T L a hw ha) (A1 (A0 rfl) (A1 (A0 rfl) A7)) (fun a => K0) ?_
  intro x54 ok54
  refine R3 ?_
  exact H4 [0, 0, 0, 0, 0, 0, 0] 1 (nin A3.ow x54.1.Txns T ++ nin A2.ow x54.1.Looks L) [] (((x54.1, x54.2), T, L)) (qz7) rfl (show List.Perm (nin A3.ow x54.1.Txns T ++ nin A2.ow x54.1.Looks L) ((nin A3.ow x54.1.Txns T ++ nin A2.ow x54.1.Looks L) ++ []) from B8) B0 (E6 rfl (A6 rfl B0))
 intro h47
 have k47 := D6 h47; try simp only [A5] at k47
 refine R5 ?_
 refine A8 (A0 rfl) ?_ ?_
 ·intro h55
  have k55 := D2 h55; try simp only [A5] at k55
  obtain ⟨gi, hgx⟩ : ∃ gi : TGroup, a.At.toNat < w.Groups.length → w.Groups[a.At.toNat]? = some gi := ⟨(w.Groups[a.At.toNat]?).getD zGroup, fun h9 => by rw [List.getElem?_eq_getElem h9]; rfl⟩
  refine R12 ?_
  refine C2 rfl rfl (B2 rfl Tryz.call30 rfl (N5 _ _ _) (A1 (A0 rfl) (A1 D8 (A1 (A0 rfl) A7)))) ?_
  refine R9 ?_
  refine M6 rfl (V7 rfl rfl rfl) (fun hc => D7 3 rfl G8 C9 (B1 rfl hc) rfl (B1 rfl hc) (by first | omega | (simp at hc; unfold within at hc; simp at hc; omega)) (by simp only [A5] at *; first | omega | (simp at hc; unfold within at hc; simp at hc; omega))) ?_
  refine M6 rfl (V7 rfl rfl rfl) (fun hc => J2 3 rfl S2 rfl B4 (B1 rfl hc) rfl rfl qz100) ?_
  refine M6 rfl (V7 rfl rfl rfl) (fun hc => K5 3 rfl (B1 rfl hc) rfl H3 qz100 rfl) ?_
  refine R3 ?_
  refine A8 (A0 rfl) ?_ ?_
  ·intro h80
   refine R5 ?_
   exact H4 [1, 1, 1, 1, 1, 1, 1] 1 (nin A3.ow w.Txns T ++ nin A2.ow w.Looks L) [] (((w, false), T, L)) (qz7) rfl (show List.Perm (nin A3.ow w.Txns T ++ nin A2.ow w.Looks L) ((nin A3.ow w.Txns T ++ nin A2.ow w.Looks L) ++ []) from B8) B0 (E6 rfl (A6 rfl B0))
  intro h80
  have hin : 0 ≤ a.At ∧ a.At.toNat < w.Groups.length := (by simp only [A5] at h80; have h9 : within a.At 0 ((w.Groups.length : Int) - 1) = true := (by simp at h80; exact h80.1); unfold within at h9; rw [Bool.and_eq_true, decide_eq_true_eq, decide_eq_true_eq] at h9; omega)
  have hx := hgx hin.2
  refine R6 ?_
  refine I2 [1, 1, 1, 1, 1, 1, 1] 1 7 (nin A3.ow w.Txns T ++ nin A2.ow w.Looks L) ([]) (fun zz => nin A3.ow w.Txns T ++ nin A2.ow w.Looks L) rfl rfl rfl rfl Tryz.call184 rfl rfl (show List.Perm (nin A3.ow w.Txns T ++ nin A2.ow w.Looks L) ((nin A3.ow w.Txns T ++ nin A2.ow w.Looks L) ++ ([])) from B8) (AG8 b w X T L a.At gi hx hin.1 (hw.groups gi (C6 hx))) (A1 (A0 rfl) (A1 (A0 rfl) A7)) (fun a => K0) ?_
  intro x84 ok84
  refine R6 ?_
  exact H4 [0, 0, 0, 0, 0, 0, 0] 1 (nin A3.ow w.Txns T ++ nin A2.ow w.Looks L) [] (((wGroup w a.At.toNat x84, true), T, L)) (qz7) rfl (show List.Perm (nin A3.ow w.Txns T ++ nin A2.ow w.Looks L) ((nin A3.ow w.Txns T ++ nin A2.ow w.Looks L) ++ []) from B8) B0 (E6 rfl (A6 rfl B0))
 intro h55
 have k55 := D6 h55; try simp only [A5] at k55
 refine R6 ?_
 refine A8 (A0 rfl) ?_ ?_
 ·intro h85
  have k85 := D2 h85; try simp only [A5] at k85
  refine R1 ?_
  refine A8 (A0 rfl) ?_ ?_
  ·intro h85
   have k85 := D2 h85; try simp only [A5] at k85
   refine R4 ?_
   refine I2 [1, 1, 1, 1, 1, 1, 1] 1 7 (nin A3.ow w.Txns T ++ nin A2.ow w.Looks L) ([]) (fun zz => nin A3.ow zz.1.1.Txns zz.2 ++ nin A2.ow zz.1.1.Looks L) rfl rfl rfl rfl Tryz.call185 rfl rfl (show List.Perm (nin A3.ow w.Txns T ++ nin A2.ow w.Looks L) ((nin A3.ow w.Txns T ++ nin A2.ow w.Looks L) ++ ([])) from B8) (BQ6 b w X T L a hw hq.txns hT ha) (A1 (A0 rfl) (A1 (A0 rfl) A7)) (fun a => K0) ?_
   intro x91 ok91
   refine R3 ?_
   exact H4 [0, 0, 0, 0, 0, 0, 0] 1 (nin A3.ow x91.1.1.Txns x91.2 ++ nin A2.ow x91.1.1.Looks L) [] (((x91.1.1, x91.1.2), x91.2, L)) (qz7) rfl (show List.Perm (nin A3.ow x91.1.1.Txns x91.2 ++ nin A2.ow x91.1.1.Looks L) ((nin A3.ow x91.1.1.Txns x91.2 ++ nin A2.ow x91.1.1.Looks L) ++ []) from B8) B0 (E6 rfl (A6 rfl B0))
  intro hz9; rw [h85] at hz9; cases hz9
 intro h85
 have k85 := D6 h85; try simp only [A5] at k85
 refine R5 ?_
 refine A8 (A0 rfl) ?_ ?_
 ·intro h85
  have k85 := D2 h85; try simp only [A5] at k85
  refine R1 ?_
  refine A8 (A0 rfl) ?_ ?_
  ·intro h85
   have k85 := D2 h85; try simp only [A5] at k85
   refine R4 ?_
   refine I2 [1, 1, 1, 1, 1, 1, 1] 1 7 (nin A3.ow w.Txns T ++ nin A2.ow w.Looks L) ([]) (fun zz => nin A3.ow zz.1.1.Txns zz.2 ++ nin A2.ow zz.1.1.Looks L) rfl rfl rfl rfl Tryz.call185 rfl rfl (show List.Perm (nin A3.ow w.Txns T ++ nin A2.ow w.Looks L) ((nin A3.ow w.Txns T ++ nin A2.ow w.Looks L) ++ ([])) from B8) (BQ6 b w X T L a hw hq.txns hT ha) (A1 (A0 rfl) (A1 (A0 rfl) A7)) (fun a => K0) ?_
   intro x91 ok91
   refine R3 ?_
   exact H4 [0, 0, 0, 0, 0, 0, 0] 1 (nin A3.ow x91.1.1.Txns x91.2 ++ nin A2.ow x91.1.1.Looks L) [] (((x91.1.1, x91.1.2), x91.2, L)) (qz7) rfl (show List.Perm (nin A3.ow x91.1.1.Txns x91.2 ++ nin A2.ow x91.1.1.Looks L) ((nin A3.ow x91.1.1.Txns x91.2 ++ nin A2.ow x91.1.1.Looks L) ++ []) from B8) B0 (E6 rfl (A6 rfl B0))
  intro hz9; rw [h85] at hz9; cases hz9
 intro h85
 have k85 := D6 h85; try simp only [A5] at k85
 refine R4 ?_
 refine A8 (A0 rfl) ?_ ?_
 ·intro h85
  have k85 := D2 h85; try simp only [A5] at k85
  refine R4 ?_
  refine I2 [1, 1, 1, 1, 1, 1, 1] 1 7 (nin A3.ow w.Txns T ++ nin A2.ow w.Looks L) ([]) (fun zz => nin A3.ow zz.1.1.Txns zz.2 ++ nin A2.ow zz.1.1.Looks L) rfl rfl rfl rfl Tryz.call185 rfl rfl (show List.Perm (nin A3.ow w.Txns T ++ nin A2.ow w.Looks L) ((nin A3.ow w.Txns T ++ nin A2.ow w.Looks L) ++ ([])) from B8) (BQ6 b w X T L a hw hq.txns hT ha) (A1 (A0 rfl) (A1 (A0 rfl) A7)) (fun a => K0) ?_
  intro x91 ok91
  refine R3 ?_
  exact H4 [0, 0, 0, 0, 0, 0, 0] 1 (nin A3.ow x91.1.1.Txns x91.2 ++ nin A2.ow x91.1.1.Looks L) [] (((x91.1.1, x91.1.2), x91.2, L)) (qz7) rfl (show List.Perm (nin A3.ow x91.1.1.Txns x91.2 ++ nin A2.ow x91.1.1.Looks L) ((nin A3.ow x91.1.1.Txns x91.2 ++ nin A2.ow x91.1.1.Looks L) ++ []) from B8) B0 (E6 rfl (A6 rfl B0))
 intro h85
 have k85 := D6 h85; try simp only [A5] at k85
 refine R5 ?_
 refine A8 (A0 rfl) ?_ ?_
 ·intro h92
  have k92 := D2 h92; try simp only [A5] at k92
  refine R1 ?_
  refine L6 14 F1 F1 rfl ?_
  refine R9 ?_
  refine C2 rfl rfl (B2 rfl Tryz.call30 rfl (N5 _ _ _) (A1 (A0 rfl) (A1 D8 (A1 (A0 rfl) A7)))) ?_
  refine R5 ?_
  refine AK1 rfl rfl (O4 rfl rfl rfl) ?_ ?_
  ·intro gh108
   refine I2 [1, 1, 1, 1, 1, 1, 1] 1 7 (nin A3.ow w.Txns T ++ nin A2.ow w.Looks L) ([]) (fun zz => nin A3.ow zz.1.1.Txns T ++ nin A2.ow zz.1.1.Looks zz.2) rfl rfl rfl rfl Tryz.call186 rfl rfl (show List.Perm (nin A3.ow w.Txns T ++ nin A2.ow w.Looks L) ((nin A3.ow w.Txns T ++ nin A2.ow w.Looks L) ++ ([])) from B8) (look_own b w X T L a.At hw hq.looks hL (by rw [S8 hL] at gh108; have h9 : within a.At 0 ((w.Looks.length : Int) - 1) = true := gh108; unfold within at h9; rw [Bool.and_eq_true, decide_eq_true_eq, decide_eq_true_eq] at h9; omega)) (A1 (B1 rfl gh108) (A1 (B1 rfl gh108) A7)) (fun a => K0) ?_
   intro x108 ok108
   refine R4 ?_
   exact H4 [0, 0, 0, 0, 0, 0, 0] 1 (nin A3.ow x108.1.1.Txns T ++ nin A2.ow x108.1.1.Looks x108.2) [] (((x108.1.1, within a.At 0 ((((nrows A2.ocs w.Looks L).length : Nat) : Int) - 1) && x108.1.2), T, x108.2)) (qz7) rfl (show List.Perm (nin A3.ow x108.1.1.Txns T ++ nin A2.ow x108.1.1.Looks x108.2) ((nin A3.ow x108.1.1.Txns T ++ nin A2.ow x108.1.1.Looks x108.2) ++ []) from B8) B0 (E6 rfl (A6 rfl B0))
  intro gh108
  refine A4 rfl (BF9 rfl (A0 rfl) (Ag6 (x := AV.bool false) gh108)) ?_
  refine R3 ?_
  exact H4 [1, 1, 1, 1, 1, 1, 1] 1 (nin A3.ow w.Txns T ++ nin A2.ow w.Looks L) [] (((w, within a.At 0 ((((nrows A2.ocs w.Looks L).length : Nat) : Int) - 1) && false), T, L)) (qz7) rfl (show List.Perm (nin A3.ow w.Txns T ++ nin A2.ow w.Looks L) ((nin A3.ow w.Txns T ++ nin A2.ow w.Looks L) ++ []) from B8) B0 (E6 rfl (A6 rfl B0))
 intro h92
 have k92 := D6 h92; try simp only [A5] at k92
 refine R6 ?_
 exact H4 [1, 1, 1, 1, 1, 1, 1] 1 (nin A3.ow w.Txns T ++ nin A2.ow w.Looks L) [] (((w, false), T, L)) (qz7) rfl (show List.Perm (nin A3.ow w.Txns T ++ nin A2.ow w.Looks L) ((nin A3.ow w.Txns T ++ nin A2.ow w.Looks L) ++ []) from B8) B0 (E6 rfl (A6 rfl B0))
def WA (w : TWorld) (X : WX) (T : List (Value × Value)) (L : List Value) : List Go.AV.Own :=
  .arr X.cl 234 1 (w.Clocks.map V6.cs) :: .arr X.gr 178 3 (w.Groups.map TGroup.cs) :: .arr X.lo 203 1 (w.Locks.map fun l => [AV.list 3 (l.map I0.cs)]) ::
  .arr X.pr 3 1 (w.Promised.map fun n => [AV.int n]) :: .arr X.tx 143 10 (nrows A3.ocs w.Txns T) :: .arr X.lk 152 6 (nrows A2.ocs w.Looks L) ::
  (nin A3.ow w.Txns T ++ nin A2.ow w.Looks L)
def WV (w : TWorld) (X : WX) : List AV := [AV.int w.Now, AV.int w.Count, AV.is X.cl, strs w.Cuts, AV.is X.gr, AV.is X.lo, AV.is X.pr, AV.is X.tx, AV.is X.lk]
theorem Bl8 (g : TGroup) (hs : g.size ≤ 1048576) : B9 Tryz.prog 166 [AV.agg g.cs] (AV.agg g.cs) :=
  K2 (AM0 g hs) fun v _ => AY6 (D1 (J3 (List.mem_singleton.2 rfl) F5) f6)
theorem Bl9 {A : List Go.AV.Own} {l : List A2} {xs : List Value} {p : A2} {x : Value} {i : Nat} (hp : l[i]? = some p) (h : xs.length = i) : (A2.ow p x ++ (A ++ nin A2.ow (l.take i) xs)).Perm (A ++ nin A2.ow (l.take (i + 1)) (xs ++ [x])) :=
  (List.perm_append_comm_assoc _ _ _).trans ((AK0 (ow := A2.ow) (x := x) hp h).append_left _)
theorem Au9 (w : TWorld) (hw : WI w) : C8 Tryz.prog 143 [AV.agg w.cs] [] (fun x : WX × List (Value × Value) × List Value => x.2.1.length = w.Txns.length ∧ x.2.2.length = w.Looks.length) (fun x => WA w x.1 x.2.1 x.2.2) (fun x => AV.agg (WV w x.1)) := by
 have hng := hw.n
 have htl := hw.txns.1
 have hll := hw.looks.1
 have hcl := hw.clocks.1
 have hcu := hw.cuts.1
 have hpr := hw.promised.1
 have hlo := hw.locks.1
 refine C3 Tryz.func143 rfl Tryz.ntmps143 rfl ?_
 refine R3 ?_
 intro b1
 refine R1 ?_
 intro b2
 refine R2 ?_
 refine awp_cut3 [(1, _), (2, _)] ⟨rfl, rfl, trivial⟩ (fun (b3 : Nat) (cv : Value) (pv : Value) => [.box b3 116 [AV.int w.Now, AV.int w.Count, AV.is cv, strs w.Cuts, AV.nils, AV.nils, AV.is pv, AV.nils, AV.nils], .box b1 116 w.cs, .box b2 116 (List.map zeroA (Value.agg #[Value.int IntKind.i64 0, Value.int IntKind.i64 0, Value.slice none 0 0, Value.slice none 0 0, Value.slice none 0 0, Value.slice none 0 0, Value.slice none 0 0, Value.slice none 0 0, Value.slice none 0 0]).cells.toList), .arr cv 234 1 (w.Clocks.map V6.cs), .arr pv 3 1 (w.Promised.map fun n => [AV.int n])]) (fun (b3 : Nat) (cv : Value) (pv : Value) => [(3, AV.ptr b3 0)]) ?_ ?_
 ·skip
  refine AWP.le (C1 [1] rfl) ?_
  refine P5 _ 16 (.pure 0 (.pure 1 (.pure 2 (.pure 3 (.pure 5 (.pure 6 (.pure 8 (.pure 9 (.pure 11 (.pure 12 (.e2 4 (.e2 7 (.pure 10 (.e2 13 (.pure 14 (.e1 15 .nil)) 15 (.e1 13 (.pure 14 .nil)))) 15 (.e1 7 (.pure 10 (.e1 13 (.pure 14 .nil))))) 15 (.e1 4 (.e1 7 (.pure 10 (.e1 13 (.pure 14 .nil)))))))))))))))) F1 F1 rfl (P1 1) ?_
  refine R10 ?_
  refine c8 ?_ ?_
  ·refine E1 rfl rfl rfl (a8 rfl S7 s0) (fun a _ => qz3) ?_
   intro v14 _
   refine c8 ?_ ?_
   ·refine E1 rfl rfl rfl (S6 2 (fun _ => rfl) (J8 (by' := 8) 2 rfl S7 Tryz.type234 rfl rfl rfl rfl rfl rfl (A0 rfl) (A0 rfl) rfl qz4)) (fun a _ => qz3) ?_
    intro v17_1 hone_v17_1
    have one_v17_1 := hone_v17_1.2
    refine J0 rfl rfl rfl (fun ext => B2 rfl Tryz.call163 rfl (p7 _ qz8) (A1 (A0 rfl) A7)) ?_
    refine c8 ?_ ?_
    ·refine E1 rfl rfl rfl (S6 3 (fun _ => rfl) (P2 [] rfl Tryz.call33 rfl (o8 w.Promised qz8) (A1 (A0 rfl) A7) rfl)) (fun a _ => qz3) ?_
     intro x23 ok23
     have one_x23 := ok23.2
     replace ok23 := ok23.1
     refine J0 rfl rfl rfl (fun ext => W8 (places := #[(0, 1), (1, 1), (2, 1), (3, 1), (4, 1), (5, 1), (6, 1), (7, 1), (8, 1)]) rfl T7 Tryz.zeroValue116 (fun w => by kernel_rfl) rfl (E0 (A0 rfl) (M5 _ _) (E0 (A0 rfl) (M5 _ _) (E0 (A0 rfl) (M0 one_v17_1) (E0 (A0 rfl) (Y5 _ _) (E0 (A0 rfl) (M0 one_x23) T9))))) rfl) ?_
     refine R1 ?_
     refine E1 rfl rfl rfl (Q6 rfl Tryz.zeroValue116 rfl) (fun a _ => qz3) ?_
     intro b3 _
     refine R3 ?_
     exact ⟨b3, v17_1, x23, Le.trans (C1 [4, 0, 0, 0, 0] rfl) (E3 0 B0 ⟨rfl, rfl, rfl, trivial⟩)⟩
    refine E1 rfl rfl rfl (Q6 rfl Tryz.zeroValue116 rfl) (fun a _ => qz3) ?_
    intro b3 _
    refine R1 ?_
    refine E1 rfl rfl rfl (S6 4 (fun _ => rfl) (P2 [] rfl Tryz.call33 rfl (o8 w.Promised qz8) (A1 (A0 rfl) A7) rfl)) (fun a _ => qz3) ?_
    intro x23 ok23
    have one_x23 := ok23.2
    replace ok23 := ok23.1
    refine J0 rfl rfl rfl (fun ext => W8 (places := #[(0, 1), (1, 1), (2, 1), (3, 1), (4, 1), (5, 1), (6, 1), (7, 1), (8, 1)]) rfl T7 Tryz.zeroValue116 (fun w => by kernel_rfl) rfl (E0 (A0 rfl) (M5 _ _) (E0 (A0 rfl) (M5 _ _) (E0 (A0 rfl) (M0 one_v17_1) (E0 (A0 rfl) (Y5 _ _) (E0 (A0 rfl) (M0 one_x23) T9))))) rfl) ?_
    refine R3 ?_
    exact ⟨b3, v17_1, x23, Le.trans (C1 [3, 0, 0, 0, 0] rfl) (E3 0 B0 ⟨rfl, rfl, rfl, trivial⟩)⟩
   refine E1 rfl rfl rfl (Q6 rfl Tryz.zeroValue116 rfl) (fun a _ => qz3) ?_
   intro b3 _
   refine R1 ?_
   refine E1 rfl rfl rfl (S6 2 (fun _ => rfl) (J8 (by' := 8) 2 rfl S7 Tryz.type234 rfl rfl rfl rfl rfl rfl (A0 rfl) (A0 rfl) rfl qz4)) (fun a _ => qz3) ?_
   intro v17_2 hone_v17_2
   have one_v17_2 := hone_v17_2.2
   refine J0 rfl rfl rfl (fun ext => B2 rfl Tryz.call163 rfl (p7 _ qz8) (A1 (A0 rfl) A7)) ?_
   refine R1 ?_
   refine E1 rfl rfl rfl (S6 4 (fun _ => rfl) (P2 [] rfl Tryz.call33 rfl (o8 w.Promised qz8) (A1 (A0 rfl) A7) rfl)) (fun a _ => qz3) ?_
   intro x23 ok23
   have one_x23 := ok23.2
   replace ok23 := ok23.1
   refine J0 rfl rfl rfl (fun ext => W8 (places := #[(0, 1), (1, 1), (2, 1), (3, 1), (4, 1), (5, 1), (6, 1), (7, 1), (8, 1)]) rfl T7 Tryz.zeroValue116 (fun w => by kernel_rfl) rfl (E0 (A0 rfl) (M5 _ _) (E0 (A0 rfl) (M5 _ _) (E0 (A0 rfl) (M0 one_v17_2) (E0 (A0 rfl) (Y5 _ _) (E0 (A0 rfl) (M0 one_x23) T9))))) rfl) ?_
   refine R3 ?_
   exact ⟨b3, v17_2, x23, Le.trans (C1 [3, 0, 0, 0, 0] rfl) (E3 0 B0 ⟨rfl, rfl, rfl, trivial⟩)⟩
  refine E1 rfl rfl rfl (Q6 rfl Tryz.zeroValue116 rfl) (fun a _ => qz3) ?_
  intro b3 _
  refine R1 ?_
  refine E1 rfl rfl rfl (a8 rfl S7 s0) (fun a _ => qz3) ?_
  intro v14 _
  refine R1 ?_
  refine E1 rfl rfl rfl (S6 3 (fun _ => rfl) (J8 (by' := 8) 3 rfl S7 Tryz.type234 rfl rfl rfl rfl rfl rfl (A0 rfl) (A0 rfl) rfl qz4)) (fun a _ => qz3) ?_
  intro v17_3 hone_v17_3
  have one_v17_3 := hone_v17_3.2
  refine J0 rfl rfl rfl (fun ext => B2 rfl Tryz.call163 rfl (p7 _ qz8) (A1 (A0 rfl) A7)) ?_
  refine R1 ?_
  refine E1 rfl rfl rfl (S6 4 (fun _ => rfl) (P2 [] rfl Tryz.call33 rfl (o8 w.Promised qz8) (A1 (A0 rfl) A7) rfl)) (fun a _ => qz3) ?_
  intro x23 ok23
  have one_x23 := ok23.2
  replace ok23 := ok23.1
  refine J0 rfl rfl rfl (fun ext => W8 (places := #[(0, 1), (1, 1), (2, 1), (3, 1), (4, 1), (5, 1), (6, 1), (7, 1), (8, 1)]) rfl T7 Tryz.zeroValue116 (fun w => by kernel_rfl) rfl (E0 (A0 rfl) (M5 _ _) (E0 (A0 rfl) (M5 _ _) (E0 (A0 rfl) (M0 one_v17_3) (E0 (A0 rfl) (Y5 _ _) (E0 (A0 rfl) (M0 one_x23) T9))))) rfl) ?_
  refine R3 ?_
  exact ⟨b3, v17_3, x23, Le.trans (C1 [2, 0, 0, 0, 0] rfl) (E3 0 B0 ⟨rfl, rfl, rfl, trivial⟩)⟩
 intro b3 cv pv
 refine R9 ?_
 refine Z7 178 3 ?_
 refine Z7 203 1 ?_
 refine AWP.le (C1 [2, 1, 0] rfl) ?_
 refine T8 [(1, _), (2, _), (3, _), (26, _), (27, _)] _ (fun (i : Nat) (gv : Value) (lv : Value) => i ≤ w.Groups.length) (fun (i : Nat) (gv : Value) (lv : Value) => [.box b3 116 [AV.int w.Now, AV.int w.Count, AV.is cv, strs w.Cuts, AV.is gv, AV.is lv, AV.is pv, AV.nils, AV.nils], .arr gv 178 3 ((w.Groups.take i).map TGroup.cs), .arr lv 203 1 ((w.Locks.take i).map fun l => [AV.list 3 (l.map I0.cs)])]) (fun (i : Nat) (gv : Value) (lv : Value) => [(28, AV.int i)]) (fun (i : Nat) (gv : Value) (lv : Value) => w.Groups.length - i) (0) (Value.slice none 0 0) (Value.slice none 0 0) ?_ (I8 B0 ⟨rfl, rfl, rfl, rfl, rfl, rfl, trivial⟩) ?_
 ·exact Nat.zero_le _
 intro i gv lv hinv
 refine R5 ?_
 refine A8 (A0 rfl) ?_ ?_
 ·intro h29
  have k29 := of_decide_eq_true h29; try simp only [A5] at k29
  have hlt : i < w.Groups.length := (by simpa using h29)
  obtain ⟨g, hg⟩ := get_some hlt
  have hgs := Ah5 (hw.groups g (C6 hg)).good
  obtain ⟨k, hk⟩ := get_some (show i < w.Locks.length by omega)
  have hk60 := (hw.locks.2 k (C6 hk)).1
  refine R6 ?_
  refine A4 rfl (C7 rfl G8 C9 (A0 rfl) (A0 rfl) hg qz4) ?_
  refine R2 ?_
  intro b5
  refine R4 ?_
  refine I5 AC9 ?_
  refine AWP.le (C1 [1, 0] rfl) ?_
  refine L6 5 F1 F1 rfl ?_
  refine R3 ?_
  refine C2 rfl rfl (B2 rfl Tryz.call166 rfl (Bl8 g qz8) (A1 (A0 rfl) A7)) ?_
  refine R2 ?_
  refine G0 (by' := 40) 2 rfl rfl rfl rfl G8 Tryz.type178 rfl rfl rfl rfl rfl rfl (A0 rfl) (A0 rfl) rfl qz4 ?_
  intro v38_4
  refine R1 ?_
  refine S4 2 rfl fun one_v38_4 => ?_
  refine P6 0 rfl rfl rfl (A0 rfl) (A0 rfl) (M0 one_v38_4) rfl Tryz.sizeOf111 rfl ?_
  refine R1 ?_
  refine I5 AC9 ?_
  refine AWP.le (C1 [0, 3] rfl) ?_
  refine M7 _ [(0, false), (1, false), (3, false), (4, false), (5, false), (6, false), (7, false), (2, true), (8, true), (9, false), (10, true)] F1 F1 rfl (P1 2) ?_
  refine R5 ?_
  refine M8 rfl rfl rfl (fun ext => C7 rfl S3 Z0 (A0 rfl) (A0 rfl) hk qz4) ?_
  refine R1 ?_
  refine S1 rfl rfl rfl (a8 rfl U7 j4) (fun a _ => qz3) ?_
  intro v42 _
  refine S1 rfl rfl rfl (AE3 [8] (fun _ => rfl) (fun _ => J3 (C6 (i := 0) rfl) F5) (fun _ => M9) (J8 (by' := 32) 8 rfl U7 Tryz.type277 rfl rfl rfl rfl rfl rfl (A0 rfl) (A0 rfl) rfl qz4)) (fun a _ => qz3) ?_
  intro v48_5 _
  refine R1 ?_
  refine S1 rfl rfl rfl (J8 (by' := 24) 4 rfl S3 Tryz.type203 rfl rfl rfl rfl rfl rfl (A0 rfl) (A0 rfl) rfl qz4) (fun a _ => qz3) ?_
  intro v50_6 _
  refine R2 ?_
  refine S4 4 rfl fun one_v50_6 => ?_
  refine P6 0 rfl rfl rfl (A0 rfl) (A0 rfl) (M0 one_v50_6) rfl Tryz.sizeOf112 rfl ?_
  refine R1 ?_
  refine I5 AC9 ?_
  refine R4 ?_
  refine N7 i gv lv (i + 1) (v38_4) (v50_6) ?_ ?_ (Le.trans (C1 [2, 0, 1, 1] rfl) (E3 1 (by (rw [List.take_add_one, hg, List.map_append, List.take_add_one, hk, List.map_append]; rfl)) ⟨rfl, rfl, rfl, rfl, rfl, rfl, trivial⟩))
  ·exact qz8
  omega
 intro h29
 have k29 := of_decide_eq_false h29; try simp only [A5] at k29
 have hge : w.Groups.length ≤ i := (by simpa using h29)
 rw [show w.Groups.take i = w.Groups from List.take_of_length_le qz8, show w.Locks.take i = w.Locks from List.take_of_length_le qz8]
 refine R10 ?_
 refine Z7 143 10 ?_
 refine AWP.le (C1 [1, 4, 3, 3, 3, 1, 1, 0] rfl) ?_
 refine T8 [(1, _), (2, _), (3, _), (54, _), (55, _)] [] (fun (j : Nat) (tv : Value) (T : List (Value × Value)) => j ≤ w.Txns.length ∧ T.length = j) (fun (j : Nat) (tv : Value) (T : List (Value × Value)) => [.box b3 116 [AV.int w.Now, AV.int w.Count, AV.is cv, strs w.Cuts, AV.is gv, AV.is lv, AV.is pv, AV.is tv, AV.nils], .box b2 116 (List.map zeroA (Value.agg #[Value.int IntKind.i64 0, Value.int IntKind.i64 0, Value.slice none 0 0, Value.slice none 0 0, Value.slice none 0 0, Value.slice none 0 0, Value.slice none 0 0, Value.slice none 0 0, Value.slice none 0 0]).cells.toList), .box b1 116 w.cs, .arr cv 234 1 (w.Clocks.map V6.cs), .arr pv 3 1 (w.Promised.map fun n => [AV.int n]), .arr gv 178 3 (w.Groups.map TGroup.cs), .arr lv 203 1 (w.Locks.map fun l => [AV.list 3 (l.map I0.cs)]), .arr tv 143 10 (nrows A3.ocs (w.Txns.take j) T)] ++ (nin A3.ow (w.Txns.take j) T)) (fun (j : Nat) (tv : Value) (T : List (Value × Value)) => [(56, AV.int j)]) (fun (j : Nat) (tv : Value) (T : List (Value × Value)) => w.Txns.length - j) (0) (Value.slice none 0 0) ([]) ?_ (I8 B0 ⟨rfl, rfl, rfl, rfl, rfl, rfl, trivial⟩) ?_
 ·exact ⟨Nat.zero_le _, rfl⟩
 intro j tv T hinv
 refine I5 (List.append_nil _) ?_
 refine R5 ?_
 refine A8 (A0 rfl) ?_ ?_
 ·intro h57
  have k57 := of_decide_eq_true h57; try simp only [A5] at k57
  have hltj : j < w.Txns.length := (by simpa using h57)
  obtain ⟨t, ht⟩ := get_some hltj
  have htk := hw.txns.2 t (C6 ht)
  have hol := htk.sb.len
  have hgl := htk.got.1
  have htm := htk.terms
  refine R5 ?_
  refine A4 rfl (C7 rfl K4 O6 (A0 rfl) (A0 rfl) ht qz4) ?_
  refine R2 ?_
  intro b7
  refine R4 ?_
  refine N8 rfl rfl rfl rfl Q2 S9 ?_
  intro v60
  refine R2 ?_
  refine G0 (by' := 48) 0 rfl rfl rfl rfl Q2 Tryz.type156 rfl rfl rfl rfl rfl rfl (A0 rfl) (A0 rfl) rfl qz4 ?_
  intro v63_7
  refine R1 ?_
  refine S4 0 rfl fun one_v63_7 => ?_
  refine P6 1 rfl rfl rfl (A0 rfl) (A0 rfl) (M0 one_v63_7) rfl Tryz.sizeOf121 rfl ?_
  refine R2 ?_
  refine AWP.le (AP8 [0] 0 (.box b7 143 t.cs) rfl rfl ⟨rfl, rfl, (D1 (J3 (C6 (i := 0) rfl) F5) (D1 H0 (D1 H0 (D1 H0 (D1 H0 (D1 H0 (D1 H0 (D1 H0 (D1 H0 (D1 H0 V2))))))))))⟩ M9) ?_
  refine I5 AC9 ?_
  refine R1 ?_
  refine N8 rfl rfl rfl rfl J6 O5 ?_
  intro v65
  refine R2 ?_
  refine G0 (by' := 40) 0 rfl rfl rfl rfl J6 Tryz.type45 rfl rfl rfl rfl rfl rfl (A0 rfl) (A0 rfl) rfl qz4 ?_
  intro v68_8
  refine R1 ?_
  refine S4 0 rfl fun one_v68_8 => ?_
  refine P6 1 rfl rfl rfl (A0 rfl) (A0 rfl) (M0 one_v68_8) rfl O0 rfl ?_
  refine R2 ?_
  refine I5 AC9 ?_
  refine R3 ?_
  refine E4 [] rfl rfl rfl rfl Tryz.call33 rfl (o8 t.Terms qz8) (A1 (A0 rfl) A7) rfl ?_
  intro x72 ok72
  refine R1 ?_
  refine S4 0 rfl fun one_x72 => ?_
  refine P6 2 rfl rfl rfl (A0 rfl) (A0 rfl) (M0 one_x72) rfl Tryz.sizeOf25 rfl ?_
  refine R1 ?_
  refine I5 AC9 ?_
  refine R5 ?_
  refine G0 (by' := 112) 10 rfl rfl rfl rfl K4 Tryz.type143 rfl rfl rfl rfl rfl rfl (A0 rfl) (A0 rfl) rfl BB8 ?_
  intro v78_9
  refine R1 ?_
  refine S4 10 rfl fun one_v78_9 => ?_
  refine P6 3 rfl rfl rfl (A0 rfl) (A0 rfl) (M0 one_v78_9) rfl Tryz.sizeOf113 rfl ?_
  refine R1 ?_
  refine I5 AC9 ?_
  refine AWP.le (C1 [2, 2, 2, 2, 2, 2, 2, 2, 2, 1, 0] rfl) ?_
  refine AWP.le (O2 9 (t := nin A3.ow (w.Txns.take (j + 1)) (T ++ [(v68_8, x72)])) (AK0 (ow := A3.ow) (x := (v68_8, x72)) ht hinv.2)) ?_
  refine R4 ?_
  refine N7 j tv T (j + 1) (v78_9) (T ++ [(v68_8, x72)]) ?_ ?_ (Le.trans (C1 [0, 0, 0, 0, 0, 0, 0, 0, 0] rfl) (E3 1 (Eq.trans (by (rw [← AG2 (ocs := A3.ocs) (x := (v68_8, x72)) ht hinv.2]; rfl)) (List.append_nil _).symm) ⟨rfl, rfl, rfl, rfl, rfl, rfl, trivial⟩))
  ·exact ⟨by omega, by rw [G2, hinv.2]; rfl⟩
  omega
 intro h57
 have k57 := of_decide_eq_false h57; try simp only [A5] at k57
 have hxT : T.length = w.Txns.length := (by have h9 : w.Txns.length ≤ j := (by simpa using h57); omega)
 rw [show w.Txns.take j = w.Txns from List.take_of_length_le qz8]
 refine R10 ?_
 refine Z7 152 6 ?_
 refine AWP.le (C1 [1, 1, 1, 1, 1, 1, 1, 1, 0] rfl) ?_
 refine T8 [(2, _), (3, _), (82, _), (83, _)] [] (fun (m : Nat) (kv : Value) (L : List Value) => m ≤ w.Looks.length ∧ L.length = m) (fun (m : Nat) (kv : Value) (L : List Value) => [.box b3 116 [AV.int w.Now, AV.int w.Count, AV.is cv, strs w.Cuts, AV.is gv, AV.is lv, AV.is pv, AV.is tv, AV.is kv], .box b2 116 (List.map zeroA (Value.agg #[Value.int IntKind.i64 0, Value.int IntKind.i64 0, Value.slice none 0 0, Value.slice none 0 0, Value.slice none 0 0, Value.slice none 0 0, Value.slice none 0 0, Value.slice none 0 0, Value.slice none 0 0]).cells.toList), .box b1 116 w.cs, .arr cv 234 1 (w.Clocks.map V6.cs), .arr pv 3 1 (w.Promised.map fun n => [AV.int n]), .arr gv 178 3 (w.Groups.map TGroup.cs), .arr lv 203 1 (w.Locks.map fun l => [AV.list 3 (l.map I0.cs)]), .arr tv 143 10 (nrows A3.ocs w.Txns T), .arr kv 152 6 (nrows A2.ocs (w.Looks.take m) L)] ++ (nin A3.ow w.Txns T ++ nin A2.ow (w.Looks.take m) L)) (fun (m : Nat) (kv : Value) (L : List Value) => [(84, AV.int m)]) (fun (m : Nat) (kv : Value) (L : List Value) => w.Looks.length - m) (0) (Value.slice none 0 0) ([]) ?_ (I8 (by (rw [show nin A2.ow (w.Looks.take 0) ([] : List Value) = [] from rfl, List.append_nil (nin A3.ow w.Txns T), List.append_nil]; rfl)) ⟨rfl, rfl, rfl, rfl, rfl, trivial⟩) ?_
 ·exact ⟨Nat.zero_le _, rfl⟩
 intro m kv L hinv
 refine I5 (List.append_nil _) ?_
 refine R5 ?_
 refine A8 (A0 rfl) ?_ ?_
 ·intro h85
  have k85 := of_decide_eq_true h85; try simp only [A5] at k85
  have hltm : m < w.Looks.length := (by simpa using h85)
  obtain ⟨q, hk9⟩ := get_some hltm
  have hqk := hw.looks.2 q (C6 hk9)
  have hqg := hqk.got.1
  have hqn := hqk.keys.1
  refine R5 ?_
  refine A4 rfl (C7 rfl i7 Tryz.sizeOf152 (A0 rfl) (A0 rfl) hk9 qz4) ?_
  refine R2 ?_
  intro b9
  refine R6 ?_
  refine A4 rfl (B2 rfl Tryz.call163 rfl (p7 _ qz8) (A1 (A0 rfl) A7)) ?_
  refine R5 ?_
  refine N8 rfl rfl rfl rfl J6 O5 ?_
  intro v92
  refine R2 ?_
  refine G0 (by' := 40) 0 rfl rfl rfl rfl J6 Tryz.type45 rfl rfl rfl rfl rfl rfl (A0 rfl) (A0 rfl) rfl qz4 ?_
  intro v95_10
  refine R1 ?_
  refine S4 0 rfl fun one_v95_10 => ?_
  refine P6 1 rfl rfl rfl (A0 rfl) (A0 rfl) (M0 one_v95_10) rfl O0 rfl ?_
  refine R1 ?_
  refine I5 AC9 ?_
  refine R5 ?_
  refine G0 (by' := 80) 10 rfl rfl rfl rfl i7 Tryz.type152 rfl rfl rfl rfl rfl rfl (A0 rfl) (A0 rfl) rfl BB8 ?_
  intro v101_11
  refine R1 ?_
  refine S4 10 rfl fun one_v101_11 => ?_
  refine P6 2 rfl rfl rfl (A0 rfl) (A0 rfl) (M0 one_v101_11) rfl Tryz.sizeOf114 rfl ?_
  refine R1 ?_
  refine I5 AC9 ?_
  refine AWP.le (C1 [1, 1, 1, 1, 1, 1, 1, 1, 1, 1, 0] rfl) ?_
  refine AWP.le (O2 10 (t := nin A3.ow w.Txns T ++ nin A2.ow (w.Looks.take (m + 1)) (L ++ [v95_10])) (Bl9 (x := v95_10) hk9 hinv.2)) ?_
  refine R4 ?_
  refine N7 m kv L (m + 1) (v101_11) (L ++ [v95_10]) ?_ ?_ (Le.trans (C1 [0, 0, 0, 0, 0, 0, 0, 0, 0, 0] rfl) (E3 1 (Eq.trans (by (rw [← AG2 (ocs := A2.ocs) (x := v95_10) hk9 hinv.2]; rfl)) (List.append_nil _).symm) ⟨rfl, rfl, rfl, rfl, rfl, trivial⟩))
  ·exact ⟨by omega, by rw [G2, hinv.2]; rfl⟩
  omega
 intro h85
 have k85 := of_decide_eq_false h85; try simp only [A5] at k85
 have hxL : L.length = w.Looks.length := (by have h9 : w.Looks.length ≤ m := (by simpa using h85); omega)
 rw [show w.Looks.take m = w.Looks from List.take_of_length_le qz8]
 refine R7 ?_
 exact H4 [3, 4, 4, 3, 3, 3] 3 (nin A3.ow w.Txns T ++ nin A2.ow w.Looks L) [] ((⟨cv, gv, lv, pv, tv, kv⟩, T, L)) (⟨hxT, hxL⟩) rfl (show List.Perm (nin A3.ow w.Txns T ++ nin A2.ow w.Looks L) ((nin A3.ow w.Txns T ++ nin A2.ow w.Looks L) ++ []) from B8) B0 (E6 rfl (G7 (ys := _) 1 rfl rfl V5 O1 rfl))
end Go.Proofs.YtcfkbhnpfjjmjaaGreat
namespace Go.M
open Go.AV
def zWorld : TWorld := ⟨0, 0, [], [], [], [], [], [], []⟩
end Go.M
namespace Go.Proofs.YtcfkbhnpfjjmjaaGreat
open Go Go.AV Go.M
attribute [local irreducible] OpW OpA OpS AWP B9 J5 C8 OpE RetOk H1 I9 Le Ev F6 J9 V9 Int.tmod Int.tdiv IntKind.wrap bandI
theorem An8 {own : List Go.AV.Own} {w : TWorld} {X : WX} {T : List (Value × Value)} {L : List Value} (hT : T.length = w.Txns.length) (hL : L.length = w.Looks.length) (h : ∀ o ∈ WA w X T L, o ∈ own) : Z9 own (WV w X) w.cs :=
  D1 H0 (D1 H0 (D1 (J3 (h _ (C6 (i := 0) rfl)) F5) (D1 H0 (D1 (J3 (h _ (C6 (i := 1) rfl)) F5) (D1 (J3 (h _ (C6 (i := 2) rfl)) F5) (D1 (J3 (h _ (C6 (i := 3) rfl)) F5)
    (D1 (J3 (h _ (C6 (i := 4) rfl)) (Ac2 A3.lcM hT fun o ho => h o (by unfold WA; exact List.mem_cons_of_mem _ (List.mem_cons_of_mem _ (List.mem_cons_of_mem _ (List.mem_cons_of_mem _ (List.mem_cons_of_mem _ (List.mem_cons_of_mem _ (List.mem_append_left _ ho)))))))))
    (D1 (J3 (h _ (C6 (i := 5) rfl)) (Ac2 A2.lcM hL fun o ho => h o (by unfold WA; exact List.mem_cons_of_mem _ (List.mem_cons_of_mem _ (List.mem_cons_of_mem _ (List.mem_cons_of_mem _ (List.mem_cons_of_mem _ (List.mem_cons_of_mem _ (List.mem_append_right _ ho))))))))) V2))))))))
theorem Ah7 (w : TWorld) (hw : WI w) : B9 Tryz.prog 143 [AV.agg w.cs] (AV.agg w.cs) :=
  K2 (Au9 w hw) fun x hx => AY6 (An8 hx.1 hx.2 fun _ ho => ho)
theorem CJ7 (w : TWorld) (a : S5) (hw : WI w) (hq : WQ w) (ha : Y3 a) : C8 Tryz.prog 144 [AV.agg w.cs, AV.agg a.cs] [] (fun v : (TWorld × Bool) × WX × List (Value × Value) × List Value => (v.2.2.1.length = v.1.1.Txns.length ∧ v.2.2.2.length = v.1.1.Looks.length) ∧ (v.1.2 = true → WI v.1.1 ∧ WQ v.1.1)) (fun v => WA v.1.1 v.2.1 v.2.2.1 v.2.2.2) (fun v => AV.tup [AV.agg (WV v.1.1 v.2.1), AV.bool v.1.2]) := by
 refine C3 Tryz.func144 rfl Tryz.ntmps144 rfl ?_
 refine R3 ?_
 intro b2
 refine R1 ?_
 intro b3
 refine R1 ?_
 intro b4
 refine R5 ?_
 refine I2 [] 3 6 ([]) ([]) (fun zz => nin A3.ow w.Txns zz.2.1 ++ nin A2.ow w.Looks zz.2.2) rfl rfl rfl rfl Tryz.call143 rfl rfl (show List.Perm ([]) (([]) ++ ([])) from List.Perm.refl _) (Au9 w hw) (A1 (A0 rfl) A7) (fun a => K0) ?_
 intro x8 ok8
 refine R2 ?_
 intro b10
 refine R7 ?_
 refine I2 [0, 0, 0, 0, 0, 0, 0] 3 7 (nin A3.ow w.Txns x8.2.1 ++ nin A2.ow w.Looks x8.2.2) ([]) (fun zz => nin A3.ow zz.1.1.Txns zz.2.1 ++ nin A2.ow zz.1.1.Looks zz.2.2) rfl rfl rfl rfl Tryz.call167 rfl rfl (show List.Perm (nin A3.ow w.Txns x8.2.1 ++ nin A2.ow w.Looks x8.2.2) ((nin A3.ow w.Txns x8.2.1 ++ nin A2.ow w.Looks x8.2.2) ++ ([])) from B8) (do_own b10 w x8.1 x8.2.1 x8.2.2 a hw hq ok8.1 ok8.2 ha) (A1 (A0 rfl) (A1 (A0 rfl) A7)) (fun a => K0) ?_
 intro x13 ok13
 refine R2 ?_
 refine A8 (A0 rfl) ?_ ?_
 ·intro h14
  refine R7 ?_
  refine AE4 7 3 1 rfl rfl M9 ?_
  refine W7 234 1 ?_
  refine W7 178 3 ?_
  refine W7 203 1 ?_
  refine W7 3 1 ?_
  refine W7 143 10 ?_
  refine W7 152 6 ?_
  first | exact G1 [5, 4, 3, 2, 1, 0] (((zWorld, false), ⟨Value.slice none 0 0, Value.slice none 0 0, Value.slice none 0 0, Value.slice none 0 0, Value.slice none 0 0, Value.slice none 0 0⟩, [], [])) (qz104) rfl B0 (N4 rfl D0 (B6 (G7 (ys := _) 13 rfl rfl V5 O1 rfl) (B6 (A6 rfl B0) E8))) | exact H4 [5, 4, 3, 2, 1, 0] 10 (nin A3.ow x13.1.1.Txns x13.2.1 ++ nin A2.ow x13.1.1.Looks x13.2.2) [] (((zWorld, false), ⟨Value.slice none 0 0, Value.slice none 0 0, Value.slice none 0 0, Value.slice none 0 0, Value.slice none 0 0, Value.slice none 0 0⟩, [], [])) (qz104) rfl (show List.Perm (nin A3.ow x13.1.1.Txns x13.2.1 ++ nin A2.ow x13.1.1.Looks x13.2.2) ((nin A3.ow x13.1.1.Txns x13.2.1 ++ nin A2.ow x13.1.1.Looks x13.2.2) ++ []) from B8) B0 (N4 rfl D0 (B6 (G7 (ys := _) 13 rfl rfl V5 O1 rfl) (B6 (A6 rfl B0) E8)))
 intro h14
 have hdo := ok13 (by simpa using h14)
 have hcb := hdo.1.count
 have hwc := wi_count hdo.1 (by rw [hdo.2.1.1]; exact hdo.2.1.2)
 refine R24 ?_
 exact H4 [1, 1, 1, 1, 1, 1] 4 (nin A3.ow x13.1.1.Txns x13.2.1 ++ nin A2.ow x13.1.1.Looks x13.2.2) [] ((({ x13.1.1 with Count := x13.1.1.Count + 1 }, true), x8.1, x13.2.1, x13.2.2)) (qz104) rfl (show List.Perm (nin A3.ow x13.1.1.Txns x13.2.1 ++ nin A2.ow x13.1.1.Looks x13.2.2) ((nin A3.ow x13.1.1.Txns x13.2.1 ++ nin A2.ow x13.1.1.Looks x13.2.2) ++ []) from B8) B0 (N4 rfl D0 (B6 (G7 (ys := _) 7 rfl rfl V5 O1 rfl) (B6 (A6 rfl B0) E8)))
theorem CJ8 (w : TWorld) (a : S5) (hw : WI w) (hq : WQ w) (ha : Y3 a) : C8 Tryz.prog 144 [AV.agg w.cs, AV.agg a.cs] [] (fun v : TWorld × Bool => v.2 = true → WI v.1 ∧ WQ v.1) (fun _ => []) (fun v => AV.tup [AV.agg v.1.cs, AV.bool v.2]) :=
  u4 (fun x => x.1) (fun v => WA v.1.1 v.2.1 v.2.2.1 v.2.2.2) (fun _ => []) (CJ7 w a hw hq ha) (fun _ h => h.2) (fun x h => p4 (D1 (AY6 (An8 h.1.1 h.1.2 fun _ ho => ho)) (D1 H0 V2))) (fun x _ => by rw [List.append_nil]) (fun _ _ => M9) (fun x _ => AY9)
theorem BE9 (w : TWorld) (acts : List S5) (hw : WI w) (hq : WQ w) (ha : ∀ a ∈ acts, Y3 a) (hl : acts.length ≤ 1000) : C8 Tryz.prog 124 [AV.agg w.cs, AV.list 3 (acts.map S5.cs)] [] (fun v : (TWorld × List Bool) × Value => WI v.1.1 ∧ WQ v.1.1) (fun v => [.arr v.2 4 1 (v.1.2.map fun b => [AV.bool b])]) (fun v => AV.tup [AV.agg v.1.1.cs, AV.is v.2]) := by
 refine C3 Tryz.func124 rfl Tryz.ntmps124 rfl ?_
 refine R3 ?_
 intro b2
 refine R1 ?_
 intro b4
 refine A4 rfl (D4 rfl F4) ?_
 refine R4 ?_
 refine A4 rfl (B2 rfl Tryz.call143 rfl (Ah7 w hw) (A1 (A0 rfl) A7)) ?_
 refine R1 ?_
 intro b6
 refine R4 ?_
 refine O8 4 1 rfl rfl rfl rfl F4 ?_
 intro v7
 refine R9 ?_
 refine AWP.le (C1 [1, 0] rfl) ?_
 refine o6 [(4, _), (5, _), (6, _), (14, _), (15, _)] _ (fun (i : Nat) (v : TWorld) (d : List Bool) (u : Value) => (i ≤ acts.length ∧ d.length = i) ∧ WI v ∧ WQ v) (fun (i : Nat) (v : TWorld) (d : List Bool) (u : Value) => [.box b6 116 v.cs, .arr u 4 1 (d.map fun b => [AV.bool b])]) (fun (i : Nat) (v : TWorld) (d : List Bool) (u : Value) => [(7, AV.is u), (16, AV.int i)]) (fun (i : Nat) (v : TWorld) (d : List Bool) (u : Value) => acts.length - i) (0) (w) ([]) (v7) ?_ (I8 B0 ⟨rfl, rfl, rfl, rfl, rfl, rfl, rfl, trivial⟩) ?_
 ·exact ⟨⟨Nat.zero_le _, rfl⟩, hw, hq⟩
 intro i v d u hinv
 refine R5 ?_
 refine A8 (A0 rfl) ?_ ?_
 ·intro h17
  have k17 := of_decide_eq_true h17; try simp only [A5] at k17
  have hlt : i < acts.length := (by simpa using h17)
  obtain ⟨a, hax⟩ := get_some hlt
  have hsa := ha a (C6 hax)
  refine R5 ?_
  refine A4 rfl (C7 rfl Tryz.underlying138 Y0 (A0 rfl) (A0 rfl) hax qz4) ?_
  refine R2 ?_
  intro b9
  refine R6 ?_
  refine E4 [] rfl rfl rfl rfl Tryz.call144 rfl (CJ8 v a hinv.2.1 hinv.2.2 hsa) (A1 (A0 rfl) (A1 (A0 rfl) A7)) rfl ?_
  intro x23 ok23
  refine R4 ?_
  intro b10
  refine R8 ?_
  refine A8 (A0 rfl) ?_ ?_
  ·intro h26
   refine R8 ?_
   refine G0 (by' := 1) 3 rfl rfl rfl rfl Tryz.underlying135 Tryz.type4 rfl rfl rfl rfl rfl rfl (A0 rfl) (A0 rfl) rfl AY0 ?_
   intro v31_1
   refine R6 ?_
   refine Y7 i v d u (i + 1) (x23.1) (d ++ [x23.2]) (v31_1) ?_ ?_ (Le.trans (C1 [0, 0, 0, 0] rfl) (E3 2 Ab1 ⟨rfl, rfl, rfl, rfl, rfl, rfl, rfl, trivial⟩))
   ·exact ⟨⟨by omega, by rw [G2, hinv.1.2]; rfl⟩, ok23 h26⟩
   omega
  intro h26
  refine R5 ?_
  refine G0 (by' := 1) 3 rfl rfl rfl rfl Tryz.underlying135 Tryz.type4 rfl rfl rfl rfl rfl rfl (A0 rfl) (A0 rfl) rfl AY0 ?_
  intro v31_2
  refine R6 ?_
  refine Y7 i v d u (i + 1) (v) (d ++ [x23.2]) (v31_2) ?_ ?_ (Le.trans (C1 [0, 0, 0, 0] rfl) (E3 2 Ab1 ⟨rfl, rfl, rfl, rfl, rfl, rfl, rfl, trivial⟩))
  ·exact ⟨⟨by omega, by rw [G2, hinv.1.2]; rfl⟩, hinv.2⟩
  omega
 intro h17
 have k17 := of_decide_eq_false h17; try simp only [A5] at k17
 refine R9 ?_
 exact G1 [1] (((v, d), u)) (hinv.2) rfl B0 (N4 rfl D0 (B6 (G7 (ys := _) 2 rfl rfl V5 O1 rfl) (B6 (A6 rfl B0) E8)))
end Go.Proofs.YtcfkbhnpfjjmjaaGreat
namespace Go.M
open Go.AV
def OpD (o : TOp) : Prop := isOp o = true ∧ o.Key ∈ keyD ∧ o.size ≤ 64
theorem valD_gv {v : Str} (h : v ∈ valD) : goodVal v = true ∧ v.length ≤ 10 := by
  have : ∀ v ∈ valD, goodVal v = true ∧ v.length ≤ 10 := by decide
  exact this v h
theorem AC5 {K : Int} {k v : Str} (h1 : 1 ≤ K ∧ K ≤ 7) (hv : AH5 K = true) (hk : k ∈ keyD) (h : v ∈ valD) : OpD ⟨K, k, v, 0⟩ := by
  obtain ⟨k1, k2⟩ := o7 hk
  obtain ⟨v1, v2⟩ := valD_gv h
  refine ⟨?_, hk, by unfold TOp.size; dsimp only; omega⟩
  unfold isOp within
  dsimp only
  rw [decide_eq_true h1.1, decide_eq_true h1.2, k1, v1, hv]
  cases AO9 K <;> rfl
theorem AF4 {K n : Int} {k : Str} (h1 : 1 ≤ K ∧ K ≤ 7) (hb : AO9 K = true) (hk : k ∈ keyD) (h : -9999 ≤ n ∧ n ≤ 9999) : OpD ⟨K, k, [], n⟩ := by
  obtain ⟨k1, k2⟩ := o7 hk
  refine ⟨?_, hk, by unfold TOp.size; simp only [N1]; omega⟩
  unfold isOp within
  dsimp only
  rw [decide_eq_true h1.1, decide_eq_true h1.2, k1, hb, decide_eq_true h.1, decide_eq_true h.2]
  cases AH5 K <;> rfl
theorem AI8 {K : Int} {k : Str} (h1 : 1 ≤ K ∧ K ≤ 7) (hk : k ∈ keyD) : OpD ⟨K, k, [], 0⟩ := by
  obtain ⟨k1, k2⟩ := o7 hk
  refine ⟨?_, hk, by unfold TOp.size; simp only [N1]; omega⟩
  unfold isOp within
  dsimp only
  rw [decide_eq_true h1.1, decide_eq_true h1.2, k1]
  cases AH5 K <;> cases AO9 K <;> rfl
theorem CJ9 {l : List TOp} (hl : l.length ≤ 8) (h : ∀ o ∈ l, OpD o) : goodOps l = true ∧ ∀ o ∈ l, o.Key ∈ keyD := by
  refine ⟨?_, fun o ho => (h o ho).2.1⟩
  unfold goodOps
  rw [decide_eq_true qz8, Bool.true_and, Bool.not_eq_true', List.any_eq_false]
  intro o ho
  rw [(h o ho).1]; decide
end Go.M
namespace Go.Proofs.YtcfkbhnpfjjmjaaGreat
open Go Go.AV Go.M
attribute [local irreducible] OpW OpA OpS AWP B9 J5 C8 OpE RetOk H1 I9 Le Ev F6 J9 Int.tmod Int.tdiv IntKind.wrap bandI
theorem CD1 (b : Nat) (code : List Int) (hcode : Y4 code) (c : N0) (hp : c.p ≤ 5000000) : C8 Tryz.prog 131 [AV.ptr b 0] [.box b 55 (Q5 code c)] (fun x : N0 × TOp => x.1.p ≤ c.p + 10 ∧ OpD x.2) (fun x => [.box b 55 (Q5 code x.1)]) (fun x => AV.agg x.2.cs) := by
 refine C3 Tryz.func131 rfl Tryz.ntmps131 rfl ?_
 refine R3 ?_
 intro b2
 refine R4 ?_
 refine E4 [1] rfl rfl rfl rfl Tryz.call22 rfl (L1 _ _ hcode _ _ qz8 qz8) (A1 (A0 rfl) (A1 D8 A7)) rfl ?_
 intro x5 ok5
 refine R2 ?_
 refine E4 [0] rfl rfl rfl rfl Tryz.call155 rfl (BB0 _ _ hcode _ qz8) (A1 (A0 rfl) A7) rfl ?_
 intro x8 ok8
 refine R2 ?_
 intro b3
 refine R15 ?_
 refine A8 (A0 rfl) ?_ ?_
 ·intro h12
  have k12 := D2 h12; try simp only [A5] at k12
  refine R1 ?_
  refine A8 (A0 rfl) ?_ ?_
  ·intro h12
   have k12 := D2 h12; try simp only [A5] at k12
   refine R2 ?_
   refine E4 [1] rfl rfl rfl rfl Tryz.call107 rfl (BB1 _ _ hcode _ qz8) (A1 (A0 rfl) A7) rfl ?_
   intro x16 ok16
   refine R9 ?_
   (refine G1 [0] ((x16.1, ⟨1 + x5.2, x8.2, x16.2, 0⟩)) ?_ rfl V8 (E6 rfl (G7 (ys := _) 2 rfl rfl c5 S9 rfl)); (dsimp only; first | exact ⟨by omega, AC5 ⟨by omega, by omega⟩ Ae3 ok8.2 ok16.2⟩ | exact ⟨by omega, AF4 ⟨by omega, by omega⟩ Ae2 ok8.2 Ae5⟩ | exact ⟨by omega, AI8 ⟨by omega, by omega⟩ ok8.2⟩))
  intro h12
  have k12 := D6 h12; try simp only [A5] at k12
  refine R6 ?_
  refine A8 (A0 rfl) ?_ ?_
  ·intro h18
   have k18 := D2 h18; try simp only [A5] at k18
   refine R1 ?_
   refine A8 (A0 rfl) ?_ ?_
   ·intro h18
    have k18 := D2 h18; try simp only [A5] at k18
    refine R3 ?_
    refine E4 [1] rfl rfl rfl rfl Tryz.call156 rfl (m2 _ _ hcode _ ([(1), (2), (5), (-3), (0), (100)] : List Int) D0 qz8) (A1 (A0 rfl) (A1 (A0 rfl) A7)) rfl ?_
    intro x23 ok23
    refine R9 ?_
    (refine G1 [0] ((x23.1, ⟨1 + x5.2, x8.2, [], x23.2⟩)) ?_ rfl V8 (E6 rfl (G7 (ys := _) 2 rfl rfl c5 S9 rfl)); (dsimp only; first | exact ⟨by omega, AC5 ⟨by omega, by omega⟩ Ae3 ok8.2 ok16.2⟩ | exact ⟨by omega, AF4 ⟨by omega, by omega⟩ Ae2 ok8.2 Ae5⟩ | exact ⟨by omega, AI8 ⟨by omega, by omega⟩ ok8.2⟩))
   intro h18
   have k18 := D6 h18; try simp only [A5] at k18
   refine R7 ?_
   (refine G1 [1] ((x8.1, ⟨1 + x5.2, x8.2, [], 0⟩)) ?_ rfl V8 (E6 rfl (G7 (ys := _) 2 rfl rfl c5 S9 rfl)); (dsimp only; first | exact ⟨by omega, AC5 ⟨by omega, by omega⟩ Ae3 ok8.2 ok16.2⟩ | exact ⟨by omega, AF4 ⟨by omega, by omega⟩ Ae2 ok8.2 Ae5⟩ | exact ⟨by omega, AI8 ⟨by omega, by omega⟩ ok8.2⟩))
  intro h18
  have k18 := D6 h18; try simp only [A5] at k18
  refine R4 ?_
  refine A8 (A0 rfl) ?_ ?_
  ·intro h18
   have k18 := D2 h18; try simp only [A5] at k18
   refine R3 ?_
   refine E4 [1] rfl rfl rfl rfl Tryz.call156 rfl (m2 _ _ hcode _ ([(1), (2), (5), (-3), (0), (100)] : List Int) D0 qz8) (A1 (A0 rfl) (A1 (A0 rfl) A7)) rfl ?_
   intro x23 ok23
   refine R9 ?_
   (refine G1 [0] ((x23.1, ⟨1 + x5.2, x8.2, [], x23.2⟩)) ?_ rfl V8 (E6 rfl (G7 (ys := _) 2 rfl rfl c5 S9 rfl)); (dsimp only; first | exact ⟨by omega, AC5 ⟨by omega, by omega⟩ Ae3 ok8.2 ok16.2⟩ | exact ⟨by omega, AF4 ⟨by omega, by omega⟩ Ae2 ok8.2 Ae5⟩ | exact ⟨by omega, AI8 ⟨by omega, by omega⟩ ok8.2⟩))
  intro h18
  have k18 := D6 h18; try simp only [A5] at k18
  refine R7 ?_
  (refine G1 [1] ((x8.1, ⟨1 + x5.2, x8.2, [], 0⟩)) ?_ rfl V8 (E6 rfl (G7 (ys := _) 2 rfl rfl c5 S9 rfl)); (dsimp only; first | exact ⟨by omega, AC5 ⟨by omega, by omega⟩ Ae3 ok8.2 ok16.2⟩ | exact ⟨by omega, AF4 ⟨by omega, by omega⟩ Ae2 ok8.2 Ae5⟩ | exact ⟨by omega, AI8 ⟨by omega, by omega⟩ ok8.2⟩))
 intro h12
 have k12 := D6 h12; try simp only [A5] at k12
 refine R4 ?_
 refine A8 (A0 rfl) ?_ ?_
 ·intro h12
  have k12 := D2 h12; try simp only [A5] at k12
  refine R2 ?_
  refine E4 [1] rfl rfl rfl rfl Tryz.call107 rfl (BB1 _ _ hcode _ qz8) (A1 (A0 rfl) A7) rfl ?_
  intro x16 ok16
  refine R9 ?_
  (refine G1 [0] ((x16.1, ⟨1 + x5.2, x8.2, x16.2, 0⟩)) ?_ rfl V8 (E6 rfl (G7 (ys := _) 2 rfl rfl c5 S9 rfl)); (dsimp only; first | exact ⟨by omega, AC5 ⟨by omega, by omega⟩ Ae3 ok8.2 ok16.2⟩ | exact ⟨by omega, AF4 ⟨by omega, by omega⟩ Ae2 ok8.2 Ae5⟩ | exact ⟨by omega, AI8 ⟨by omega, by omega⟩ ok8.2⟩))
 intro h12
 have k12 := D6 h12; try simp only [A5] at k12
 refine R6 ?_
 refine A8 (A0 rfl) ?_ ?_
 ·intro h18
  have k18 := D2 h18; try simp only [A5] at k18
  refine R1 ?_
  refine A8 (A0 rfl) ?_ ?_
  ·intro h18
   have k18 := D2 h18; try simp only [A5] at k18
   refine R3 ?_
   refine E4 [1] rfl rfl rfl rfl Tryz.call156 rfl (m2 _ _ hcode _ ([(1), (2), (5), (-3), (0), (100)] : List Int) D0 qz8) (A1 (A0 rfl) (A1 (A0 rfl) A7)) rfl ?_
   intro x23 ok23
   refine R9 ?_
   (refine G1 [0] ((x23.1, ⟨1 + x5.2, x8.2, [], x23.2⟩)) ?_ rfl V8 (E6 rfl (G7 (ys := _) 2 rfl rfl c5 S9 rfl)); (dsimp only; first | exact ⟨by omega, AC5 ⟨by omega, by omega⟩ Ae3 ok8.2 ok16.2⟩ | exact ⟨by omega, AF4 ⟨by omega, by omega⟩ Ae2 ok8.2 Ae5⟩ | exact ⟨by omega, AI8 ⟨by omega, by omega⟩ ok8.2⟩))
  intro h18
  have k18 := D6 h18; try simp only [A5] at k18
  refine R7 ?_
  (refine G1 [1] ((x8.1, ⟨1 + x5.2, x8.2, [], 0⟩)) ?_ rfl V8 (E6 rfl (G7 (ys := _) 2 rfl rfl c5 S9 rfl)); (dsimp only; first | exact ⟨by omega, AC5 ⟨by omega, by omega⟩ Ae3 ok8.2 ok16.2⟩ | exact ⟨by omega, AF4 ⟨by omega, by omega⟩ Ae2 ok8.2 Ae5⟩ | exact ⟨by omega, AI8 ⟨by omega, by omega⟩ ok8.2⟩))
 intro h18
 have k18 := D6 h18; try simp only [A5] at k18
 refine R4 ?_
 refine A8 (A0 rfl) ?_ ?_
 ·intro h18
  have k18 := D2 h18; try simp only [A5] at k18
  refine R3 ?_
  refine E4 [1] rfl rfl rfl rfl Tryz.call156 rfl (m2 _ _ hcode _ ([(1), (2), (5), (-3), (0), (100)] : List Int) D0 qz8) (A1 (A0 rfl) (A1 (A0 rfl) A7)) rfl ?_
  intro x23 ok23
  refine R9 ?_
  (refine G1 [0] ((x23.1, ⟨1 + x5.2, x8.2, [], x23.2⟩)) ?_ rfl V8 (E6 rfl (G7 (ys := _) 2 rfl rfl c5 S9 rfl)); (dsimp only; first | exact ⟨by omega, AC5 ⟨by omega, by omega⟩ Ae3 ok8.2 ok16.2⟩ | exact ⟨by omega, AF4 ⟨by omega, by omega⟩ Ae2 ok8.2 Ae5⟩ | exact ⟨by omega, AI8 ⟨by omega, by omega⟩ ok8.2⟩))
 intro h18
 have k18 := D6 h18; try simp only [A5] at k18
 refine R7 ?_
 (refine G1 [1] ((x8.1, ⟨1 + x5.2, x8.2, [], 0⟩)) ?_ rfl V8 (E6 rfl (G7 (ys := _) 2 rfl rfl c5 S9 rfl)); (dsimp only; first | exact ⟨by omega, AC5 ⟨by omega, by omega⟩ Ae3 ok8.2 ok16.2⟩ | exact ⟨by omega, AF4 ⟨by omega, by omega⟩ Ae2 ok8.2 Ae5⟩ | exact ⟨by omega, AI8 ⟨by omega, by omega⟩ ok8.2⟩))
theorem BB2 (b : Nat) (code : List Int) (hcode : Y4 code) (c : N0) (hp : c.p ≤ 4000000) : C8 Tryz.prog 105 [AV.ptr b 0] [.box b 55 (Q5 code c)] (fun x : N0 × List TOp × Value => x.1.p ≤ c.p + 100 ∧ (1 ≤ x.2.1.length ∧ x.2.1.length ≤ 4) ∧ ∀ o ∈ x.2.1, OpD o) (fun x => [.box b 55 (Q5 code x.1), .arr x.2.2 156 4 (x.2.1.map TOp.cs)]) (fun x => AV.is x.2.2) := by
 refine C3 Tryz.func105 rfl Tryz.ntmps105 rfl ?_
 refine R2 ?_
 refine A4 rfl (D4 rfl F4) ?_
 refine R3 ?_
 refine O8 156 4 rfl rfl rfl rfl F4 ?_
 intro v3
 refine R5 ?_
 refine E4 [1] rfl rfl rfl rfl Tryz.call22 rfl (L1 _ _ hcode _ _ qz8 qz8) (A1 (A0 rfl) (A1 D8 A7)) rfl ?_
 intro x7 ok7
 obtain ⟨n0, hn0⟩ : ∃ n0 : Nat, x7.2 = n0 := ⟨x7.2.toNat, by omega⟩
 refine R4 ?_
 refine AWP.le (C1 [0, 0] rfl) ?_
 refine o6 [(0, _), (2, _)] _ (fun (n : Nat) (cc : N0) (l : List TOp) (v : Value) => n + l.length = 1 + n0 ∧ cc.p ≤ c.p + 2 + 14 * l.length ∧ ∀ o ∈ l, OpD o) (fun (n : Nat) (cc : N0) (l : List TOp) (v : Value) => [.box b 55 (Q5 code cc), .arr v 156 4 (l.map TOp.cs)]) (fun (n : Nat) (cc : N0) (l : List TOp) (v : Value) => [(3, AV.is v), (4, AV.int n)]) (fun (n : Nat) (cc : N0) (l : List TOp) (v : Value) => n) (1 + n0) (x7.1) ([]) (v3) ?_ (I8 B0 ⟨rfl, congrArg (fun z => some (AV.int z)) qz8, rfl, rfl, trivial⟩) ?_
 ·exact ⟨rfl, by simp; omega, fun o h => by cases h⟩
 intro n cc l v hinv
 refine R6 ?_
 refine A8 (A0 rfl) ?_ ?_
 ·intro h10
  have k10 := of_decide_eq_true h10; try simp only [A5] at k10
  have hn1 : 1 ≤ n := by omega
  have hll : l.length ≤ 4 := by omega
  refine R6 ?_
  refine E4 [0] rfl rfl rfl rfl Tryz.call131 rfl (CD1 _ _ hcode _ qz8) (A1 (A0 rfl) A7) rfl ?_
  intro x14 ok14
  refine R1 ?_
  intro b5
  refine R20 ?_
  refine AK1 rfl rfl (O4 rfl rfl rfl) ?_ ?_
  ·intro gh30
   refine E4 [1] rfl rfl rfl rfl Tryz.call53 rfl (AB0 _ _ hcode _ _ qz8 qz8) (A1 (B1 rfl gh30) (A1 D8 A7)) rfl ?_
   intro x30 ok30
   refine R3 ?_
   refine A8 (A0 rfl) ?_ ?_
   ·intro h32
    refine AWP.le (C1 [1, 1, 0] rfl) ?_
    refine M7 _ [(0, false), (1, false), (2, false), (3, true), (4, false)] F1 F1 rfl (P1 2) ?_
    refine R3 ?_
    refine S1 rfl rfl rfl (P2 [2] rfl Tryz.call22 rfl (L1 _ _ hcode _ _ qz8 qz8) (A1 (A0 rfl) (A1 D8 A7)) rfl) (fun a _ => qz3) ?_
    intro x36 ok36
    refine R9 ?_
    refine G0 (by' := 48) 1 rfl rfl rfl rfl Q2 Tryz.type156 rfl rfl rfl rfl rfl rfl (A0 rfl) (A0 rfl) rfl qz4 ?_
    intro v42_1
    refine R7 ?_
    refine Y7 n cc l v (n - 1) (x36.1) (l ++ [⟨4, x14.2.Key, [], 1 + x36.2⟩]) (v42_1) ?_ ?_ (Le.trans (C1 [0, 1, 0] rfl) (E3 1 qz77 ⟨rfl, congrArg (fun z => some (AV.int z)) qz8, rfl, rfl, trivial⟩))
    ·exact ⟨by rw [G2, H6, N1]; omega, by rw [G2, H6, N1]; omega, fun o ho => (List.mem_append.1 ho).elim (hinv.2.2 o) fun e => by (rw [List.mem_singleton.1 e]; exact AF4 ⟨by decide, by decide⟩ rfl ok14.2.2.1 ⟨by omega, by omega⟩)⟩
    omega
   intro h32
   refine R5 ?_
   refine G0 (by' := 48) 2 rfl rfl rfl rfl Q2 Tryz.type156 rfl rfl rfl rfl rfl rfl (A0 rfl) (A0 rfl) rfl qz4 ?_
   intro v42_2
   refine R7 ?_
   refine Y7 n cc l v (n - 1) (x30.1) (l ++ [x14.2]) (v42_2) ?_ ?_ (Le.trans (C1 [1, 0, 0] rfl) (E3 1 qz77 ⟨rfl, congrArg (fun z => some (AV.int z)) qz8, rfl, rfl, trivial⟩))
   ·exact ⟨by rw [G2, H6, N1]; omega, by rw [G2, H6, N1]; omega, fun o ho => (List.mem_append.1 ho).elim (hinv.2.2 o) fun e => by rw [List.mem_singleton.1 e]; exact ok14.2⟩
   omega
  intro gh30
  refine AK1 rfl rfl (O4 rfl rfl rfl) (fun hq => by rw [gh30] at hq; cases hq) (fun _ => ?_)
  refine A4 rfl (BF9 rfl (A0 rfl) (Ag6 (x := AV.bool false) gh30)) ?_
  refine R1 ?_
  refine A8 (A0 rfl) ?_ ?_
  ·intro h32
   refine AWP.le (C1 [0, 1, 0] rfl) ?_
   refine M7 _ [(0, false), (1, false), (2, false), (3, true), (4, false)] F1 F1 rfl (P1 2) ?_
   refine R3 ?_
   refine S1 rfl rfl rfl (P2 [2] rfl Tryz.call22 rfl (L1 _ _ hcode _ _ qz8 qz8) (A1 (A0 rfl) (A1 D8 A7)) rfl) (fun a _ => qz3) ?_
   intro x36 ok36
   refine R9 ?_
   refine G0 (by' := 48) 1 rfl rfl rfl rfl Q2 Tryz.type156 rfl rfl rfl rfl rfl rfl (A0 rfl) (A0 rfl) rfl qz4 ?_
   intro v42_3
   refine R7 ?_
   refine Y7 n cc l v (n - 1) (x14.1) (l ++ [x14.2]) (v42_3) ?_ ?_ (Le.trans (C1 [0, 1, 0] rfl) (E3 1 qz77 ⟨rfl, congrArg (fun z => some (AV.int z)) qz8, rfl, rfl, trivial⟩))
   ·exact ⟨by rw [G2, H6, N1]; omega, by rw [G2, H6, N1]; omega, fun o ho => (List.mem_append.1 ho).elim (hinv.2.2 o) fun e => by rw [List.mem_singleton.1 e]; exact ok14.2⟩
   omega
  intro h32
  refine R5 ?_
  refine G0 (by' := 48) 2 rfl rfl rfl rfl Q2 Tryz.type156 rfl rfl rfl rfl rfl rfl (A0 rfl) (A0 rfl) rfl qz4 ?_
  intro v42_4
  refine R7 ?_
  refine Y7 n cc l v (n - 1) (x14.1) (l ++ [x14.2]) (v42_4) ?_ ?_ (Le.trans (C1 [0, 0, 0] rfl) (E3 1 qz77 ⟨rfl, congrArg (fun z => some (AV.int z)) qz8, rfl, rfl, trivial⟩))
  ·exact ⟨by rw [G2, H6, N1]; omega, by rw [G2, H6, N1]; omega, fun o ho => (List.mem_append.1 ho).elim (hinv.2.2 o) fun e => by rw [List.mem_singleton.1 e]; exact ok14.2⟩
  omega
 intro h10
 have k10 := of_decide_eq_false h10; try simp only [A5] at k10
 refine R7 ?_
 (refine G1 [0, 0] ((cc, l, v)) ?_ rfl V8 (E6 rfl (A6 rfl B0)); exact ⟨show cc.p ≤ _ by omega, ⟨show 1 ≤ l.length by omega, show l.length ≤ 4 by omega⟩, hinv.2.2⟩)
end Go.Proofs.YtcfkbhnpfjjmjaaGreat
namespace Go.M
open Go.AV
def l16K (l : List Str) : Bool := (l.all l3Key && adj Op.bytesLess l) && within (l.length : Int) 1 8
theorem l16K_of {l : List Str} (h0 : 1 ≤ l.length ∧ l.length ≤ 8) (hk : ∀ k ∈ l, k ∈ keyD) (hs : n7 l) : l16K l = true := by
  unfold l16K within
  rw [decide_eq_true qz8, decide_eq_true qz8, Bool.and_eq_true, Bool.and_eq_true]
  refine ⟨⟨List.all_eq_true.2 fun k h => by rw [← AA8]; exact (o7 (hk k h)).1, ?_⟩, rfl⟩
  have h1 := BX9 (fun k h => (o7 (hk k h)).1) hs
  unfold areRising at h1
  simp only [Bool.and_eq_true] at h1
  exact h1.2
def newG3 : TGroup := (o9 3).1
theorem newG3_wg : WG newG3 := by
  refine ⟨r8.1 D0, rfl, fun h => ?_, fun r hr e he => ?_⟩
  · exact absurd h D0
  · have : ∀ r ∈ newG3.Reps, r.Log = [] := by decide
    rw [this r hr] at he; cases he
def Bn4 (n : Nat) (p : List TOp) : A3 := ⟨p, [], List.replicate n 0, -1, -1, false, 0, false, false, false⟩
def newLook (n : Nat) (k : Nat) (l : List Str) : A2 := ⟨Int.tmod (k : Int) (3 * (n : Int)), l, [], 0, -1, -1⟩
def newLooks (n : Nat) (ls : List (List Str)) (i : Nat) : List A2 := (List.range i).map fun k => newLook n k (ls.getD k [])
theorem Av0 (n : Nat) (ls : List (List Str)) (i : Nat) : (newLooks n ls i).length = i := by unfold newLooks; rw [A5, List.length_range]
theorem Bm0 {n : Nat} {ls : List (List Str)} {i : Nat} {l : List Str} (h : ls[i]? = some l) : (newLooks n ls ls.length)[i]? = some (newLook n i l) := by
  have hi := (List.getElem?_eq_some_iff.1 h).1
  unfold newLooks
  rw [List.getElem?_map, List.getElem?_range hi]
  show some (newLook n i (ls.getD i [])) = _
  rw [show ls.getD i [] = l by rw [List.getD_eq_getElem?_getD, h]; rfl]
def newW (cuts : List Str) (ps : List (List TOp)) (ls : List (List Str)) : TWorld :=
  ⟨0, 0, List.replicate (3 * (cuts.length + 1)) ⟨0⟩, cuts, List.replicate (cuts.length + 1) newG3, List.replicate (cuts.length + 1) [], List.replicate (cuts.length + 1) 0, ps.map (Bn4 (cuts.length + 1)), newLooks (cuts.length + 1) ls ls.length⟩
structure NewOk (cuts : List Str) (ps : List (List TOp)) (ls : List (List Str)) : Prop where
  cuts : l15Cuts cuts = true ∧ cuts.length ≤ 2 ∧ ∀ k ∈ cuts, k.length ≤ 12
  ps : ps.length ≤ 4 ∧ ∀ p ∈ ps, (goodOps p = true ∧ ∀ o ∈ p, o.Key ∈ keyD) ∧ 1 ≤ p.length
  ls : ls.length ≤ 4 ∧ ∀ l ∈ ls, (1 ≤ l.length ∧ l.length ≤ 8) ∧ n7 l ∧ ∀ k ∈ l, k ∈ keyD
theorem NewOk.wi {cuts : List Str} {ps : List (List TOp)} {ls : List (List Str)} (h : NewOk cuts ps ls) : WI (newW cuts ps ls) where
  n := by have := h.cuts.2.1; unfold newW; dsimp only; rw [List.length_replicate]; omega
  clocks := ⟨by unfold newW; dsimp only; rw [List.length_replicate, List.length_replicate], fun c hc => by rw [(List.mem_replicate.1 hc).2]; decide⟩
  cuts := ⟨by unfold newW; dsimp only; rw [List.length_replicate], h.cuts.2.2⟩
  locks := ⟨by unfold newW; dsimp only; rw [List.length_replicate, List.length_replicate], fun l hl => by rw [(List.mem_replicate.1 hl).2]; exact ⟨Nat.zero_le _, fun x hx => by cases hx⟩⟩
  promised := ⟨by unfold newW; dsimp only; rw [List.length_replicate, List.length_replicate], fun p hp => by rw [(List.mem_replicate.1 hp).2]; decide⟩
  groups := fun g hg => by rw [(List.mem_replicate.1 hg).2]; exact newG3_wg
  txns := ⟨by unfold newW; dsimp only; rw [A5]; have := h.ps.1; omega, fun t ht => by
    obtain ⟨p, hp, rfl⟩ := List.mem_map.1 ht
    refine ⟨?_, (h.ps.2 p hp).1, ⟨Nat.zero_le _, fun g hg => by cases hg⟩, ⟨show (-1 : Int) ≤ 0 by decide, .inl rfl⟩⟩
    show (List.replicate (cuts.length + 1) (0 : Int)).length = (List.replicate (cuts.length + 1) newG3).length
    rw [List.length_replicate, List.length_replicate]⟩
  looks := ⟨by unfold newW newLooks; dsimp only; rw [A5, List.length_range]; exact h.ls.1, fun l hl => by
    obtain ⟨k, hk, rfl⟩ := List.mem_map.1 hl
    have hkl := List.mem_range.1 hk
    obtain ⟨q, hq⟩ := get_some hkl
    have hd : ls.getD k [] = q := by rw [List.getD_eq_getElem?_getD, hq]; rfl
    have hq9 := h.ls.2 q (C6 hq)
    show LkOk (List.replicate (cuts.length + 1) newG3).length _ (newLook (cuts.length + 1) k (ls.getD k []))
    rw [hd, List.length_replicate]
    refine ⟨(show 0 ≤ Int.tmod (k : Int) (3 * ((cuts.length + 1 : Nat) : Int)) ∧ Int.tmod (k : Int) (3 * ((cuts.length + 1 : Nat) : Int)) < 3 * ((cuts.length + 1 : Nat) : Int) from ⟨Int.tmod_nonneg _ qz8, Int.tmod_lt_of_pos _ qz8⟩), ⟨hq9.1.2, fun x hx => by have := (o7 (hq9.2.2 x hx)).2; omega⟩, ⟨Nat.zero_le _, fun g hg => by cases hg⟩, ⟨show (-1 : Int) ≤ 0 by decide, .inl rfl⟩, show (0 : Int) ≤ 0 ∧ (0 : Int) ≤ 1000000 by decide⟩⟩
  now := show (0 : Int) ≤ 0 ∧ (0 : Int) ≤ 100000 by decide
  count := show (0 : Int) ≤ 0 ∧ (0 : Int) ≤ 1000000 by decide
theorem newW_wq (cuts : List Str) (ps : List (List TOp)) (ls : List (List Str)) : ∀ v : TWorld, v.Txns = (newW cuts ps ls).Txns → v.Looks = (newW cuts ps ls).Looks → v.Count = 0 → WQ v := fun v h1 h2 h3 => ⟨fun t ht => by
    rw [h1] at ht
    obtain ⟨p, hp, rfl⟩ := List.mem_map.1 ht
    rw [h3]; exact (show (-1 : Int) < 0 by decide), fun l hl => by
    rw [h2] at hl
    obtain ⟨k, hk, rfl⟩ := List.mem_map.1 hl
    rw [h3]; exact (show (-1 : Int) < 0 by decide)⟩
theorem Aa4 {α β : Type} {c : α → β} {n : Nat} {x : α} : (List.replicate n x).map c = List.replicate n (c x) := List.map_replicate ..
theorem nilRows {own : List Go.AV.Own} (n : Nat) : AS8 own (List.replicate n [AV.nils]) ((List.replicate n ([] : List I0)).map fun l => [AV.list 3 (l.map I0.cs)]) := by
  refine ⟨by simp, fun i e f h k => ?_⟩
  rw [List.getElem?_replicate] at h
  rw [List.getElem?_map, List.getElem?_replicate] at k
  split at h
  · rename_i hlt
    rw [if_pos hlt] at k
    injection h with h; injection k with k; subst h; subst k
    exact D1 Ax1 V2
  · cases h
end Go.M
namespace Go.Proofs.YtcfkbhnpfjjmjaaGreat
open Go Go.AV Go.M
attribute [local irreducible] OpW OpA OpS AWP B9 J5 C8 OpE RetOk H1 I9 Le Ev F6 J9 V9 Int.tmod Int.tdiv IntKind.wrap bandI
theorem Bm1 (l : List Str) (hs : ∀ k ∈ l, k.length ≤ 4611686018427387904) : B9 Tryz.prog 162 [strs l] (AV.bool (l16K l)) := by
 refine B7 Tryz.func162 rfl Tryz.ntmps162 rfl ?_
 refine S0 (t := 0) rfl fun hl => ?_
 try simp only [A5] at hl
 refine R12 ?_
 refine E5 [(0, _), (5, _), (6, _)] _ (fun (i : Nat) => i ≤ l.length ∧ (l.all l3Key && adj Op.bytesLess l) = ((l.drop i).all l3Key && adj Op.bytesLess (l.drop (i - 1)))) (fun (i : Nat) => []) (fun (i : Nat) => [(7, AV.int i)]) (fun (i : Nat) => l.length - i) (0) ?_ (F2 ⟨rfl, rfl, rfl, rfl, trivial⟩) ?_
 ·exact ⟨Nat.zero_le _, rfl⟩
 intro i hinv
 refine R5 ?_
 refine A8 (A0 rfl) ?_ ?_
 ·intro h8
  have k8 := of_decide_eq_true h8; try simp only [A5] at k8
  have hlt : i < l.length := by omega
  obtain ⟨x, hx⟩ := get_some hlt
  obtain ⟨y, hy⟩ := get_some (show i - 1 < l.length by omega)
  have hsx := hs x (C6 hx)
  refine R6 ?_
  refine A4 rfl (AA6 rfl F7 K1 (A0 rfl) (A0 rfl) qz8 qz135) ?_
  refine R7 ?_
  refine A4 rfl (B2 rfl Tryz.call99 rfl (AA9 _ qz8) (A1 (A0 rfl) A7)) ?_
  refine R8 ?_
  refine f5 rfl rfl (V1 rfl rfl rfl) (fun hc => AA6 rfl F7 K1 (B1 rfl hc) (B1 rfl hc) qz186 qz89) ?_
  refine R2 ?_
  refine f5 rfl rfl (V1 rfl rfl rfl) (fun hc => Aq4 rfl (B1 rfl hc) (B1 rfl hc)) ?_
  refine R3 ?_
  refine A8 (A0 rfl) ?_ ?_
  ·intro h27
   have hfin : (l.all l3Key && adj Op.bytesLess l) = false := by rw [hinv.2, drop_some hx, List.all_cons]; cases hg : l3Key x with | false => simp | true => (simp only [hg, Bool.not_true, Bool.false_or, Bool.and_eq_true, decide_eq_true_eq, Bool.not_eq_true'] at h27; rw [AK4 hx hy qz8 h27.2]; simp)
   refine R5 ?_
   exact D5 rfl (A6 rfl qz132)
  intro h27
  refine R5 ?_
  refine F3 i (i + 1) ?_ ?_ (F2 ⟨rfl, rfl, rfl, rfl, trivial⟩)
  ·exact ⟨by omega, by rw [hinv.2, drop_some hx, List.all_cons, AK3 hx hy (fun h0 => by simp_all), show l3Key x = true by simp_all, Bool.true_and]⟩
  omega
 intro h8
 have k8 := of_decide_eq_false h8; try simp only [A5] at k8
 have hge : l.length ≤ i := by omega
 refine R5 ?_
 refine A4 rfl (B2 rfl Tryz.call30 rfl (N5 _ _ _) (A1 (A0 rfl) (A1 D8 (A1 D8 A7)))) ?_
 refine R3 ?_
 exact D5 rfl (A6 rfl qz132)
theorem AF5 (cuts : List Str) (ps : List (List TOp)) (ls : List (List Str)) (h : NewOk cuts ps ls) : C8 Tryz.prog 140 [strs cuts, AV.list 1 (ps.map fun l => [AV.list 4 (l.map TOp.cs)]), AV.list 1 (ls.map fun l => [strs l])] [] (fun v : TWorld => WI v ∧ WQ v) (fun _ => []) (fun v => AV.tup [AV.agg v.cs, AV.bool true]) := by
 have hcl := h.cuts.2.1
 have hpl := h.ps.1
 have hll := h.ls.1
 have hwi := h.wi
 obtain ⟨N, hN⟩ : ∃ N, cuts.length + 1 = N := ⟨_, rfl⟩
 have hcb : ∀ k ∈ cuts, k.length ≤ 4611686018427387904 := fun k hk => Nat.le_trans (h.cuts.2.2 k hk) D0
 obtain ⟨P9, hP9⟩ : ∃ P9, ps.map (Bn4 N) = P9 := ⟨_, rfl⟩
 obtain ⟨Q9, hQ9⟩ : ∃ Q9, newLooks N ls ls.length = Q9 := ⟨_, rfl⟩
 have hP9l : P9.length = ps.length := by rw [← hP9, A5]
 have hQ9l : Q9.length = ls.length := by rw [← hQ9, Av0]
 refine C3 Tryz.func140 rfl Tryz.ntmps140 rfl ?_
 refine R3 ?_
 intro b6
 refine R6 ?_
 refine A4 rfl (B2 rfl Tryz.call160 rfl (Bl3 cuts hcb) (A1 (A0 rfl) A7)) ?_
 refine R17 ?_
 refine A8 (A0 rfl) ?_ ?_
 ·intro h39
  (exfalso; simp only [h.cuts.1, A5] at h39; simp at h39; omega)
 intro h39
 refine R9 ?_
 refine E5 [(0, _), (1, _), (2, _), (6, _), (41, _), (42, _)] _ (fun (i : Nat) => i ≤ ps.length) (fun (i : Nat) => []) (fun (i : Nat) => [(43, AV.int i)]) (fun (i : Nat) => ps.length - i) (0) ?_ (F2 ⟨rfl, rfl, rfl, rfl, rfl, rfl, rfl, trivial⟩) ?_
 ·exact Nat.zero_le _
 intro i hinv
 refine R5 ?_
 refine A8 (A0 rfl) ?_ ?_
 ·intro h44
  have k44 := of_decide_eq_true h44; try simp only [A5] at k44
  have hlt : i < ps.length := (by simpa using h44)
  obtain ⟨p, hp⟩ := get_some hlt
  have hpk := h.ps.2 p (C6 hp)
  refine R5 ?_
  refine A4 rfl (C7 rfl Tryz.underlying168 Tryz.sizeOf121 (A0 rfl) (A0 rfl) hp qz4) ?_
  refine R6 ?_
  refine A4 rfl (B2 rfl Tryz.call161 rfl (Bl1 p (by have h9 := a9 (f := TOp.size) (c := 36) (l := p) fun o ho => (AG6 hpk.1.1 o ho).size; have h8 : p.length ≤ 8 := (by have h7 := hpk.1.1; unfold goodOps at h7; rw [Bool.and_eq_true, decide_eq_true_eq] at h7; have := h7.1; omega); have h6 : p.length * (36 + 1) ≤ 8 * 37 := Nat.mul_le_mul_right _ h8; omega)) (A1 (A0 rfl) A7)) ?_
  refine R7 ?_
  refine A8 (A0 rfl) ?_ ?_
  ·intro h54
   (exfalso; rw [show l5Good p = true from by rw [← BI4]; exact hpk.1.1] at h54; simp only [A5] at h54; simp at h54; have h9 := hpk.2; rw [h54] at h9; simp at h9)
  intro h54
  refine R5 ?_
  refine F3 i (i + 1) ?_ ?_ (F2 ⟨rfl, rfl, rfl, rfl, rfl, rfl, rfl, trivial⟩)
  ·exact qz8
  omega
 intro h44
 have k44 := of_decide_eq_false h44; try simp only [A5] at k44
 refine R9 ?_
 refine E5 [(0, _), (1, _), (2, _), (6, _), (57, _), (58, _)] _ (fun (j : Nat) => j ≤ ls.length) (fun (j : Nat) => []) (fun (j : Nat) => [(59, AV.int j)]) (fun (j : Nat) => ls.length - j) (0) ?_ (F2 ⟨rfl, rfl, rfl, rfl, rfl, rfl, rfl, trivial⟩) ?_
 ·exact Nat.zero_le _
 intro j hinv
 refine R5 ?_
 refine A8 (A0 rfl) ?_ ?_
 ·intro h60
  have k60 := of_decide_eq_true h60; try simp only [A5] at k60
  have hlt2 : j < ls.length := (by simpa using h60)
  obtain ⟨l, hl⟩ := get_some hlt2
  have hlk := h.ls.2 l (C6 hl)
  refine R5 ?_
  refine A4 rfl (C7 rfl i8 d5 (A0 rfl) (A0 rfl) hl qz4) ?_
  refine R6 ?_
  refine A4 rfl (B2 rfl Tryz.call162 rfl (Bm1 l (fun k hk => by have := (o7 (hlk.2.2 k hk)).2; omega)) (A1 (A0 rfl) A7)) ?_
  refine R2 ?_
  refine A8 (A0 rfl) ?_ ?_
  ·intro h65
   (exfalso; rw [l16K_of hlk.1 hlk.2.2 hlk.2.1] at h65; cases h65)
  intro h65
  refine R5 ?_
  refine F3 j (j + 1) ?_ ?_ (F2 ⟨rfl, rfl, rfl, rfl, rfl, rfl, rfl, trivial⟩)
  ·exact qz8
  omega
 intro h60
 have k60 := of_decide_eq_false h60; try simp only [A5] at k60
 refine R5 ?_
 refine A4 rfl (w_natc (a := ((cuts.map fun s => [AV.str s]).length : Int) + 1) N (Ag0 rfl (A0 rfl) D8 Ai3) Ai3) ?_
 refine R3 ?_
 refine awp_cut4 [(1, _), (2, _), (6, _), (12, _)] ⟨rfl, rfl, rfl, rfl, trivial⟩ (fun (b82 : Nat) (cv : Value) (lv : Value) (pv : Value) => [.box b82 199 [AV.int 0, AV.int 0, AV.is cv, strs cuts, AV.nils, AV.is lv, AV.is pv, AV.nils, AV.nils], .box b6 116 (List.map zeroA (Value.agg #[Value.int IntKind.i64 0, Value.int IntKind.i64 0, Value.slice none 0 0, Value.slice none 0 0, Value.slice none 0 0, Value.slice none 0 0, Value.slice none 0 0, Value.slice none 0 0, Value.slice none 0 0]).cells.toList), .arr cv 234 1 (List.replicate (3 * N) [AV.int 0]), .arr lv 203 1 (List.replicate N [AV.nils]), .arr pv 3 1 (List.replicate N [AV.int 0])]) (fun (b82 : Nat) (cv : Value) (lv : Value) (pv : Value) => [(13, AV.ptr b82 0)]) ?_ ?_
 ·skip
  refine BD2 [] 11 (.pure 0 (.pure 1 (.pure 3 (.pure 4 (.pure 5 (.pure 7 (.e3 2 (.e2 6 (.e1 8 (.pure 9 (.pure 10 .nil))) 8 (.e1 6 (.pure 9 (.pure 10 .nil)))) 6 (.e2 2 (.e1 8 (.pure 9 (.pure 10 .nil))) 8 (.e1 2 (.pure 9 (.pure 10 .nil)))) 8 (.e2 2 (.e1 6 (.pure 9 (.pure 10 .nil))) 6 (.e1 2 (.pure 9 (.pure 10 .nil))))))))))) F1 F1 rfl AY7 ?_
  refine R1 ?_
  refine s8 rfl rfl rfl (fun ext => w_natc (a := 3 * ((N : Nat) : Int)) (3 * N) (AT1 rfl D8 (A0 rfl) qz8) qz8) ?_
  refine R1 ?_
  refine s8 rfl rfl rfl (fun ext => B2 rfl Tryz.call163 rfl (p7 _ qz8) (A1 (A0 rfl) A7)) ?_
  refine R2 ?_
  refine bt3_e3 ?_ ?_ ?_
  ·refine E1 rfl rfl rfl (S6 1 (fun _ => rfl) (Z6 (by' := 8) rfl S7 Tryz.type234 rfl rfl rfl rfl rfl rfl (A0 rfl) (A0 rfl) qz4 qz4)) (fun a _ => qz3) ?_
   intro v73 hone_v73
   have one_v73 := hone_v73.2
   refine Bg0 ?_ ?_
   ·refine E1 rfl rfl rfl (S6 2 (fun _ => rfl) (Z6 (by' := 24) rfl S3 Tryz.type203 rfl rfl rfl rfl rfl rfl (A0 rfl) (A0 rfl) qz4 qz4)) (fun a _ => qz3) ?_
    intro v77 hone_v77
    have one_v77 := hone_v77.2
    refine R1 ?_
    refine E1 rfl rfl rfl (S6 3 (fun _ => rfl) (Z6 (by' := 8) rfl B3 Tryz.type3 rfl rfl rfl rfl rfl rfl (A0 rfl) (A0 rfl) qz4 qz4)) (fun a _ => qz3) ?_
    intro v79 hone_v79
    have one_v79 := hone_v79.2
    refine s8 rfl rfl rfl (fun ext => W8 (places := #[(0, 1), (1, 1), (2, 1), (3, 1), (4, 1), (5, 1), (6, 1), (7, 1), (8, 1)]) rfl T7 Tryz.zeroValue116 (fun w => by kernel_rfl) rfl (E0 (A0 rfl) (M0 one_v73) (E0 (A0 rfl) (Y5 _ _) (E0 (A0 rfl) (M0 one_v77) (E0 (A0 rfl) (M0 one_v79) T9)))) rfl) ?_
    refine R3 ?_
    intro b82
    refine R2 ?_
    exact ⟨b82, v73, v77, v79, Le.trans (C1 [0, 0, 0, 0, 0] rfl) (E3 0 B0 ⟨rfl, rfl, rfl, rfl, rfl, trivial⟩)⟩
   refine E1 rfl rfl rfl (S6 2 (fun _ => rfl) (Z6 (by' := 8) rfl B3 Tryz.type3 rfl rfl rfl rfl rfl rfl (A0 rfl) (A0 rfl) qz4 qz4)) (fun a _ => qz3) ?_
   intro v79 hone_v79
   have one_v79 := hone_v79.2
   refine R1 ?_
   refine E1 rfl rfl rfl (S6 3 (fun _ => rfl) (Z6 (by' := 24) rfl S3 Tryz.type203 rfl rfl rfl rfl rfl rfl (A0 rfl) (A0 rfl) qz4 qz4)) (fun a _ => qz3) ?_
   intro v77 hone_v77
   have one_v77 := hone_v77.2
   refine s8 rfl rfl rfl (fun ext => W8 (places := #[(0, 1), (1, 1), (2, 1), (3, 1), (4, 1), (5, 1), (6, 1), (7, 1), (8, 1)]) rfl T7 Tryz.zeroValue116 (fun w => by kernel_rfl) rfl (E0 (A0 rfl) (M0 one_v73) (E0 (A0 rfl) (Y5 _ _) (E0 (A0 rfl) (M0 one_v77) (E0 (A0 rfl) (M0 one_v79) T9)))) rfl) ?_
   refine R3 ?_
   intro b82
   refine R2 ?_
   exact ⟨b82, v73, v77, v79, Le.trans (C1 [0, 0, 0, 1, 0] rfl) (E3 0 B0 ⟨rfl, rfl, rfl, rfl, rfl, trivial⟩)⟩
  ·refine E1 rfl rfl rfl (S6 1 (fun _ => rfl) (Z6 (by' := 24) rfl S3 Tryz.type203 rfl rfl rfl rfl rfl rfl (A0 rfl) (A0 rfl) qz4 qz4)) (fun a _ => qz3) ?_
   intro v77 hone_v77
   have one_v77 := hone_v77.2
   refine Bg0 ?_ ?_
   ·refine E1 rfl rfl rfl (S6 2 (fun _ => rfl) (Z6 (by' := 8) rfl S7 Tryz.type234 rfl rfl rfl rfl rfl rfl (A0 rfl) (A0 rfl) qz4 qz4)) (fun a _ => qz3) ?_
    intro v73 hone_v73
    have one_v73 := hone_v73.2
    refine R1 ?_
    refine E1 rfl rfl rfl (S6 3 (fun _ => rfl) (Z6 (by' := 8) rfl B3 Tryz.type3 rfl rfl rfl rfl rfl rfl (A0 rfl) (A0 rfl) qz4 qz4)) (fun a _ => qz3) ?_
    intro v79 hone_v79
    have one_v79 := hone_v79.2
    refine s8 rfl rfl rfl (fun ext => W8 (places := #[(0, 1), (1, 1), (2, 1), (3, 1), (4, 1), (5, 1), (6, 1), (7, 1), (8, 1)]) rfl T7 Tryz.zeroValue116 (fun w => by kernel_rfl) rfl (E0 (A0 rfl) (M0 one_v73) (E0 (A0 rfl) (Y5 _ _) (E0 (A0 rfl) (M0 one_v77) (E0 (A0 rfl) (M0 one_v79) T9)))) rfl) ?_
    refine R3 ?_
    intro b82
    refine R2 ?_
    exact ⟨b82, v73, v77, v79, Le.trans (C1 [0, 0, 1, 0, 0] rfl) (E3 0 B0 ⟨rfl, rfl, rfl, rfl, rfl, trivial⟩)⟩
   refine E1 rfl rfl rfl (S6 2 (fun _ => rfl) (Z6 (by' := 8) rfl B3 Tryz.type3 rfl rfl rfl rfl rfl rfl (A0 rfl) (A0 rfl) qz4 qz4)) (fun a _ => qz3) ?_
   intro v79 hone_v79
   have one_v79 := hone_v79.2
   refine R1 ?_
   refine E1 rfl rfl rfl (S6 3 (fun _ => rfl) (Z6 (by' := 8) rfl S7 Tryz.type234 rfl rfl rfl rfl rfl rfl (A0 rfl) (A0 rfl) qz4 qz4)) (fun a _ => qz3) ?_
   intro v73 hone_v73
   have one_v73 := hone_v73.2
   refine s8 rfl rfl rfl (fun ext => W8 (places := #[(0, 1), (1, 1), (2, 1), (3, 1), (4, 1), (5, 1), (6, 1), (7, 1), (8, 1)]) rfl T7 Tryz.zeroValue116 (fun w => by kernel_rfl) rfl (E0 (A0 rfl) (M0 one_v73) (E0 (A0 rfl) (Y5 _ _) (E0 (A0 rfl) (M0 one_v77) (E0 (A0 rfl) (M0 one_v79) T9)))) rfl) ?_
   refine R3 ?_
   intro b82
   refine R2 ?_
   exact ⟨b82, v73, v77, v79, Le.trans (C1 [0, 0, 2, 0, 0] rfl) (E3 0 B0 ⟨rfl, rfl, rfl, rfl, rfl, trivial⟩)⟩
  refine E1 rfl rfl rfl (S6 1 (fun _ => rfl) (Z6 (by' := 8) rfl B3 Tryz.type3 rfl rfl rfl rfl rfl rfl (A0 rfl) (A0 rfl) qz4 qz4)) (fun a _ => qz3) ?_
  intro v79 hone_v79
  have one_v79 := hone_v79.2
  refine Bg0 ?_ ?_
  ·refine E1 rfl rfl rfl (S6 2 (fun _ => rfl) (Z6 (by' := 8) rfl S7 Tryz.type234 rfl rfl rfl rfl rfl rfl (A0 rfl) (A0 rfl) qz4 qz4)) (fun a _ => qz3) ?_
   intro v73 hone_v73
   have one_v73 := hone_v73.2
   refine R1 ?_
   refine E1 rfl rfl rfl (S6 3 (fun _ => rfl) (Z6 (by' := 24) rfl S3 Tryz.type203 rfl rfl rfl rfl rfl rfl (A0 rfl) (A0 rfl) qz4 qz4)) (fun a _ => qz3) ?_
   intro v77 hone_v77
   have one_v77 := hone_v77.2
   refine s8 rfl rfl rfl (fun ext => W8 (places := #[(0, 1), (1, 1), (2, 1), (3, 1), (4, 1), (5, 1), (6, 1), (7, 1), (8, 1)]) rfl T7 Tryz.zeroValue116 (fun w => by kernel_rfl) rfl (E0 (A0 rfl) (M0 one_v73) (E0 (A0 rfl) (Y5 _ _) (E0 (A0 rfl) (M0 one_v77) (E0 (A0 rfl) (M0 one_v79) T9)))) rfl) ?_
   refine R3 ?_
   intro b82
   refine R2 ?_
   exact ⟨b82, v73, v77, v79, Le.trans (C1 [0, 0, 1, 1, 0] rfl) (E3 0 B0 ⟨rfl, rfl, rfl, rfl, rfl, trivial⟩)⟩
  refine E1 rfl rfl rfl (S6 2 (fun _ => rfl) (Z6 (by' := 24) rfl S3 Tryz.type203 rfl rfl rfl rfl rfl rfl (A0 rfl) (A0 rfl) qz4 qz4)) (fun a _ => qz3) ?_
  intro v77 hone_v77
  have one_v77 := hone_v77.2
  refine R1 ?_
  refine E1 rfl rfl rfl (S6 3 (fun _ => rfl) (Z6 (by' := 8) rfl S7 Tryz.type234 rfl rfl rfl rfl rfl rfl (A0 rfl) (A0 rfl) qz4 qz4)) (fun a _ => qz3) ?_
  intro v73 hone_v73
  have one_v73 := hone_v73.2
  refine s8 rfl rfl rfl (fun ext => W8 (places := #[(0, 1), (1, 1), (2, 1), (3, 1), (4, 1), (5, 1), (6, 1), (7, 1), (8, 1)]) rfl T7 Tryz.zeroValue116 (fun w => by kernel_rfl) rfl (E0 (A0 rfl) (M0 one_v73) (E0 (A0 rfl) (Y5 _ _) (E0 (A0 rfl) (M0 one_v77) (E0 (A0 rfl) (M0 one_v79) T9)))) rfl) ?_
  refine R3 ?_
  intro b82
  refine R2 ?_
  exact ⟨b82, v73, v77, v79, Le.trans (C1 [0, 0, 2, 1, 0] rfl) (E3 0 B0 ⟨rfl, rfl, rfl, rfl, rfl, trivial⟩)⟩
 intro b82 cv lv pv
 refine R2 ?_
 refine AWP.le (AK2 5 3 (.arr lv 203 1 ((List.replicate N ([] : List I0)).map fun l => [AV.list 3 (l.map I0.cs)])) rfl (⟨rfl, rfl, rfl, nilRows N⟩) M9) ?_
 refine R4 ?_
 refine Z7 178 3 ?_
 refine AWP.le (C1 [1, 0] rfl) ?_
 refine J7 [(1, _), (2, _), (6, _), (12, _), (13, _)] _ (fun (i : Nat) (gv : Value) => i ≤ N) (fun (i : Nat) (gv : Value) => [.box b82 199 [AV.int 0, AV.int 0, AV.is cv, strs cuts, AV.is gv, AV.is lv, AV.is pv, AV.nils, AV.nils], .arr gv 178 3 ((List.replicate i newG3).map TGroup.cs)]) (fun (i : Nat) (gv : Value) => [(14, AV.int i)]) (fun (i : Nat) (gv : Value) => N - i) (0) (Value.slice none 0 0) ?_ (I8 B0 ⟨rfl, rfl, rfl, rfl, rfl, rfl, trivial⟩) ?_
 ·exact Nat.zero_le _
 intro i gv hinv
 refine R7 ?_
 refine A8 (A0 rfl) ?_ ?_
 ·intro h85
  have k85 := of_decide_eq_true h85; try simp only [A5] at k85
  refine R5 ?_
  refine A4 rfl (B2 rfl Tryz.call164 rfl (Bb0 3) (A1 D8 A7)) ?_
  refine R4 ?_
  intro b15
  refine R3 ?_
  refine I5 AC9 ?_
  refine AWP.le (C1 [1, 0] rfl) ?_
  refine M7 _ [(0, false), (1, false), (2, false), (3, false), (4, false), (5, false), (6, false), (7, false), (8, true)] F1 F1 rfl (P1 2) ?_
  refine R8 ?_
  refine S1 rfl rfl rfl (J8 (by' := 40) 2 rfl G8 Tryz.type178 rfl rfl rfl rfl rfl rfl (A0 rfl) (A0 rfl) rfl (by rw [A5, List.length_replicate]; simp only [P0]; omega)) (fun a _ => qz3) ?_
  intro v100_1 _
  refine R4 ?_
  refine S4 2 rfl fun one_v100_1 => ?_
  refine P6 0 rfl rfl rfl (A0 rfl) (A0 rfl) (M0 one_v100_1) rfl Tryz.sizeOf111 rfl ?_
  refine R1 ?_
  refine I5 AC9 ?_
  refine R5 ?_
  refine G9 i gv (i + 1) (v100_1) ?_ ?_ (Le.trans (C1 [1, 0, 0] rfl) (E3 1 (by (rw [List.replicate_succ', List.map_append]; rfl)) ⟨rfl, rfl, rfl, rfl, rfl, rfl, trivial⟩))
  ·exact qz8
  omega
 intro h85
 have k85 := of_decide_eq_false h85; try simp only [A5] at k85
 rw [show i = N by omega]
 refine R9 ?_
 refine Z7 143 10 ?_
 refine AWP.le (C1 [1, 2, 2, 1, 1, 1, 0] rfl) ?_
 refine T8 [(2, _), (6, _), (12, _), (13, _), (104, _), (105, _)] [] (fun (j : Nat) (tv : Value) (T : List (Value × Value)) => j ≤ ps.length ∧ T.length = j) (fun (j : Nat) (tv : Value) (T : List (Value × Value)) => [.box b82 199 [AV.int 0, AV.int 0, AV.is cv, strs cuts, AV.is gv, AV.is lv, AV.is pv, AV.is tv, AV.nils], .box b6 116 (List.map zeroA (Value.agg #[Value.int IntKind.i64 0, Value.int IntKind.i64 0, Value.slice none 0 0, Value.slice none 0 0, Value.slice none 0 0, Value.slice none 0 0, Value.slice none 0 0, Value.slice none 0 0, Value.slice none 0 0]).cells.toList), .arr cv 234 1 (List.replicate (3 * N) [AV.int 0]), .arr gv 178 3 ((List.replicate N newG3).map TGroup.cs), .arr lv 203 1 ((List.replicate N ([] : List I0)).map fun l => [AV.list 3 (l.map I0.cs)]), .arr pv 3 1 (List.replicate N [AV.int 0]), .arr tv 143 10 (nrows A3.ocs (P9.take j) T)] ++ (nin A3.ow (P9.take j) T)) (fun (j : Nat) (tv : Value) (T : List (Value × Value)) => [(106, AV.int j)]) (fun (j : Nat) (tv : Value) (T : List (Value × Value)) => ps.length - j) (0) (Value.slice none 0 0) ([]) ?_ (I8 B0 ⟨rfl, rfl, rfl, rfl, rfl, rfl, rfl, trivial⟩) ?_
 ·exact ⟨Nat.zero_le _, rfl⟩
 intro j tv T hinv
 refine I5 (List.append_nil _) ?_
 refine R5 ?_
 refine A8 (A0 rfl) ?_ ?_
 ·intro h107
  have k107 := of_decide_eq_true h107; try simp only [A5] at k107
  have hlt : j < ps.length := (by simpa using h107)
  obtain ⟨p, hp⟩ := get_some hlt
  have ht : P9[j]? = some (Bn4 N p) := (by rw [← hP9, List.getElem?_map, hp]; rfl)
  have hpk := h.ps.2 p (C6 hp)
  have hp8 : p.length ≤ 8 := (by have h9 := hpk.1.1; unfold goodOps at h9; rw [Bool.and_eq_true, decide_eq_true_eq] at h9; have := h9.1; omega)
  refine R5 ?_
  refine A4 rfl (C7 rfl Tryz.underlying168 Tryz.sizeOf121 (A0 rfl) (A0 rfl) hp qz4) ?_
  refine R3 ?_
  refine AWP.le (C1 [0] rfl) ?_
  refine P5 _ 14 (.pure 0 (.pure 1 (.pure 2 (.pure 3 (.pure 4 (.pure 5 (.pure 7 (.pure 9 (.e2 6 (.e2 8 (.e1 10 (.pure 11 (.pure 12 (.e1 13 .nil)))) 10 (.e1 8 (.pure 11 (.pure 12 (.e1 13 .nil))))) 10 (.e1 6 (.e1 8 (.pure 11 (.pure 12 (.e1 13 .nil)))))))))))))) F1 F1 rfl (P1 1) ?_
  refine R8 ?_
  refine c8 ?_ ?_
  ·refine E1 rfl rfl rfl (Y6 7 <| a8 rfl Q2 S9) (fun a _ => qz3) ?_
   intro v116 _
   refine c8 ?_ ?_
   ·refine E1 rfl rfl rfl (AE3 [7] (fun _ => rfl) (fun _ => J3 (C6 (i := 0) rfl) F5) (fun _ => M9) (J8 (by' := 48) 7 rfl Q2 Tryz.type156 rfl rfl rfl rfl rfl rfl (A0 rfl) (A0 rfl) rfl qz4)) (fun a _ => qz3) ?_
    intro v118_2 _
    refine R1 ?_
    refine E1 rfl rfl rfl (S6 7 (fun _ => rfl) (Y6 7 <| Z6 (by' := 8) rfl B3 Tryz.type3 rfl rfl rfl rfl rfl rfl (A0 rfl) (A0 rfl) qz4 qz4)) (fun a _ => qz3) ?_
    intro v120 hone_v120
    have one_v120 := hone_v120.2
    refine J0 rfl rfl rfl (fun ext => W8 (places := #[(0, 1), (1, 1), (2, 1), (3, 1), (4, 1), (5, 1), (6, 1), (7, 1), (8, 1), (9, 1)]) rfl H8 Tryz.zeroValue143 (fun w => by kernel_rfl) rfl (E0 (A0 rfl) (Y5 _ _) (E0 (A0 rfl) (M0 one_v120) (E0 D8 (M5 _ _) (E0 D8 (M5 _ _) T9)))) rfl) ?_
    refine R2 ?_
    refine E1 rfl rfl rfl (J8 (by' := 112) 6 rfl K4 Tryz.type143 rfl rfl rfl rfl rfl rfl (A0 rfl) (A0 rfl) rfl BB8) (fun a _ => qz3) ?_
    intro v123_3 _
    refine R4 ?_
    refine S4 6 rfl fun one_v123_3 => ?_
    refine P6 0 rfl rfl rfl (A0 rfl) (A0 rfl) (M0 one_v123_3) rfl Tryz.sizeOf113 rfl ?_
    refine R1 ?_
    refine I5 AC9 ?_
    refine Z7 45 3 ?_
    refine AWP.le (C1 [1, 1, 1, 1, 1, 1, 1, 0, 0] rfl) ?_
    refine AWP.le (O2 7 (t := nin A3.ow (P9.take (j + 1)) (T ++ [(Value.slice none 0 0, v120)])) ((AH0 (b := [Go.AV.Own.arr (Value.slice none 0 0) 45 3 [], Go.AV.Own.arr v120 3 1 ((List.replicate N (0 : Int)).map fun n => [AV.int n])] ++ nin A3.ow (P9.take j) T) qz103 (AK0 (ow := A3.ow) (x := (Value.slice none 0 0, v120)) ht hinv.2)))) ?_
    refine R4 ?_
    refine N7 j tv T (j + 1) (v123_3) (T ++ [(Value.slice none 0 0, v120)]) ?_ ?_ (Le.trans (C1 [0, 0, 0, 0, 0, 0, 0] rfl) (I8 (Eq.trans qz121 (List.append_nil _).symm) ⟨rfl, rfl, rfl, rfl, rfl, rfl, rfl, trivial⟩))
    ·exact ⟨by omega, by rw [G2, hinv.2]; rfl⟩
    omega
   refine E1 rfl rfl rfl (S6 8 (fun _ => rfl) (Y6 8 <| Z6 (by' := 8) rfl B3 Tryz.type3 rfl rfl rfl rfl rfl rfl (A0 rfl) (A0 rfl) qz4 qz4)) (fun a _ => qz3) ?_
   intro v120 hone_v120
   have one_v120 := hone_v120.2
   refine R1 ?_
   refine E1 rfl rfl rfl (AE3 [7] (fun _ => rfl) (fun _ => J3 (C6 (i := 0) rfl) F5) (fun _ => M9) (J8 (by' := 48) 7 rfl Q2 Tryz.type156 rfl rfl rfl rfl rfl rfl (A0 rfl) (A0 rfl) rfl qz4)) (fun a _ => qz3) ?_
   intro v118_4 _
   refine J0 rfl rfl rfl (fun ext => W8 (places := #[(0, 1), (1, 1), (2, 1), (3, 1), (4, 1), (5, 1), (6, 1), (7, 1), (8, 1), (9, 1)]) rfl H8 Tryz.zeroValue143 (fun w => by kernel_rfl) rfl (E0 (A0 rfl) (Y5 _ _) (E0 (A0 rfl) (M0 one_v120) (E0 D8 (M5 _ _) (E0 D8 (M5 _ _) T9)))) rfl) ?_
   refine R2 ?_
   refine E1 rfl rfl rfl (J8 (by' := 112) 6 rfl K4 Tryz.type143 rfl rfl rfl rfl rfl rfl (A0 rfl) (A0 rfl) rfl BB8) (fun a _ => qz3) ?_
   intro v123_5 _
   refine R4 ?_
   refine S4 6 rfl fun one_v123_5 => ?_
   refine P6 0 rfl rfl rfl (A0 rfl) (A0 rfl) (M0 one_v123_5) rfl Tryz.sizeOf113 rfl ?_
   refine R1 ?_
   refine I5 AC9 ?_
   refine Z7 45 3 ?_
   refine AWP.le (C1 [1, 1, 1, 1, 1, 1, 1, 0, 0] rfl) ?_
   refine AWP.le (O2 7 (t := nin A3.ow (P9.take (j + 1)) (T ++ [(Value.slice none 0 0, v120)])) ((AH0 (b := [Go.AV.Own.arr (Value.slice none 0 0) 45 3 [], Go.AV.Own.arr v120 3 1 ((List.replicate N (0 : Int)).map fun n => [AV.int n])] ++ nin A3.ow (P9.take j) T) qz103 (AK0 (ow := A3.ow) (x := (Value.slice none 0 0, v120)) ht hinv.2)))) ?_
   refine R4 ?_
   refine N7 j tv T (j + 1) (v123_5) (T ++ [(Value.slice none 0 0, v120)]) ?_ ?_ (Le.trans (C1 [0, 0, 0, 0, 0, 0, 0] rfl) (I8 (Eq.trans qz121 (List.append_nil _).symm) ⟨rfl, rfl, rfl, rfl, rfl, rfl, rfl, trivial⟩))
   ·exact ⟨by omega, by rw [G2, hinv.2]; rfl⟩
   omega
  refine E1 rfl rfl rfl (S6 7 (fun _ => rfl) (Y6 7 <| Z6 (by' := 8) rfl B3 Tryz.type3 rfl rfl rfl rfl rfl rfl (A0 rfl) (A0 rfl) qz4 qz4)) (fun a _ => qz3) ?_
  intro v120 hone_v120
  have one_v120 := hone_v120.2
  refine R1 ?_
  refine E1 rfl rfl rfl (Y6 8 <| a8 rfl Q2 S9) (fun a _ => qz3) ?_
  intro v116 _
  refine R1 ?_
  refine E1 rfl rfl rfl (AE3 [8] (fun _ => rfl) (fun _ => J3 (C6 (i := 0) rfl) F5) (fun _ => M9) (J8 (by' := 48) 8 rfl Q2 Tryz.type156 rfl rfl rfl rfl rfl rfl (A0 rfl) (A0 rfl) rfl qz4)) (fun a _ => qz3) ?_
  intro v118_6 _
  refine J0 rfl rfl rfl (fun ext => W8 (places := #[(0, 1), (1, 1), (2, 1), (3, 1), (4, 1), (5, 1), (6, 1), (7, 1), (8, 1), (9, 1)]) rfl H8 Tryz.zeroValue143 (fun w => by kernel_rfl) rfl (E0 (A0 rfl) (Y5 _ _) (E0 (A0 rfl) (M0 one_v120) (E0 D8 (M5 _ _) (E0 D8 (M5 _ _) T9)))) rfl) ?_
  refine R2 ?_
  refine E1 rfl rfl rfl (J8 (by' := 112) 6 rfl K4 Tryz.type143 rfl rfl rfl rfl rfl rfl (A0 rfl) (A0 rfl) rfl BB8) (fun a _ => qz3) ?_
  intro v123_7 _
  refine R4 ?_
  refine S4 6 rfl fun one_v123_7 => ?_
  refine P6 0 rfl rfl rfl (A0 rfl) (A0 rfl) (M0 one_v123_7) rfl Tryz.sizeOf113 rfl ?_
  refine R1 ?_
  refine I5 AC9 ?_
  refine Z7 45 3 ?_
  refine AWP.le (C1 [1, 1, 1, 1, 1, 1, 1, 0, 0] rfl) ?_
  refine AWP.le (O2 7 (t := nin A3.ow (P9.take (j + 1)) (T ++ [(Value.slice none 0 0, v120)])) ((AH0 (b := [Go.AV.Own.arr (Value.slice none 0 0) 45 3 [], Go.AV.Own.arr v120 3 1 ((List.replicate N (0 : Int)).map fun n => [AV.int n])] ++ nin A3.ow (P9.take j) T) qz103 (AK0 (ow := A3.ow) (x := (Value.slice none 0 0, v120)) ht hinv.2)))) ?_
  refine R4 ?_
  refine N7 j tv T (j + 1) (v123_7) (T ++ [(Value.slice none 0 0, v120)]) ?_ ?_ (Le.trans (C1 [0, 0, 0, 0, 0, 0, 0] rfl) (I8 (Eq.trans qz121 (List.append_nil _).symm) ⟨rfl, rfl, rfl, rfl, rfl, rfl, rfl, trivial⟩))
  ·exact ⟨by omega, by rw [G2, hinv.2]; rfl⟩
  omega
 intro h107
 have k107 := of_decide_eq_false h107; try simp only [A5] at k107
 have hxT : T.length = ps.length := (by have h9 : ps.length ≤ j := (by simpa using h107); omega)
 rw [show P9.take j = P9 from List.take_of_length_le qz8]
 refine R9 ?_
 refine Z7 152 6 ?_
 refine AWP.le (C1 [1, 1, 1, 1, 1, 1, 1, 0] rfl) ?_
 refine T8 [(6, _), (12, _), (13, _), (128, _), (129, _)] [] (fun (m : Nat) (kv : Value) (L : List Value) => m ≤ ls.length ∧ L.length = m) (fun (m : Nat) (kv : Value) (L : List Value) => [.box b82 199 [AV.int 0, AV.int 0, AV.is cv, strs cuts, AV.is gv, AV.is lv, AV.is pv, AV.is tv, AV.is kv], .box b6 116 (List.map zeroA (Value.agg #[Value.int IntKind.i64 0, Value.int IntKind.i64 0, Value.slice none 0 0, Value.slice none 0 0, Value.slice none 0 0, Value.slice none 0 0, Value.slice none 0 0, Value.slice none 0 0, Value.slice none 0 0]).cells.toList), .arr cv 234 1 (List.replicate (3 * N) [AV.int 0]), .arr gv 178 3 ((List.replicate N newG3).map TGroup.cs), .arr lv 203 1 ((List.replicate N ([] : List I0)).map fun l => [AV.list 3 (l.map I0.cs)]), .arr pv 3 1 (List.replicate N [AV.int 0]), .arr tv 143 10 (nrows A3.ocs P9 T), .arr kv 152 6 (nrows A2.ocs (Q9.take m) L)] ++ (nin A3.ow P9 T ++ nin A2.ow (Q9.take m) L)) (fun (m : Nat) (kv : Value) (L : List Value) => [(130, AV.int m)]) (fun (m : Nat) (kv : Value) (L : List Value) => ls.length - m) (0) (Value.slice none 0 0) ([]) ?_ (I8 (by (rw [show nin A2.ow (Q9.take 0) ([] : List Value) = [] from rfl, List.append_nil (nin A3.ow P9 T), List.append_nil]; rfl)) ⟨rfl, rfl, rfl, rfl, rfl, rfl, trivial⟩) ?_
 ·exact ⟨Nat.zero_le _, rfl⟩
 intro m kv L hinv
 refine I5 (List.append_nil _) ?_
 refine R5 ?_
 refine A8 (A0 rfl) ?_ ?_
 ·intro h131
  have k131 := of_decide_eq_true h131; try simp only [A5] at k131
  have hltm : m < ls.length := (by simpa using h131)
  obtain ⟨l, hl⟩ := get_some hltm
  have hq9 : Q9[m]? = some (newLook N m l) := (by rw [← hQ9]; exact Bm0 hl)
  have hlk := h.ls.2 l (C6 hl)
  refine R6 ?_
  refine A4 rfl (C7 rfl i8 d5 (A0 rfl) (A0 rfl) hl qz4) ?_
  refine R4 ?_
  refine AWP.le (C1 [0] rfl) ?_
  refine M7 _ [(0, false), (1, false), (2, false), (3, false), (4, false), (5, false), (6, false), (7, false), (8, false), (9, false), (10, false), (11, false), (12, false), (13, false), (14, true)] F1 F1 rfl (P1 1) ?_
  refine R8 ?_
  refine M8 rfl rfl rfl (fun ext => AT1 rfl D8 (A0 rfl) qz4) ?_
  refine M8 rfl rfl rfl (fun ext => Aj5 rfl (A0 rfl) (A0 rfl) qz4) ?_
  refine R1 ?_
  refine M8 rfl rfl rfl (fun ext => B2 rfl Tryz.call163 rfl (p7 _ qz8) (A1 (A0 rfl) A7)) ?_
  refine R2 ?_
  refine S1 rfl rfl rfl (J8 (by' := 80) 7 rfl i7 Tryz.type152 rfl rfl rfl rfl rfl rfl (A0 rfl) (A0 rfl) rfl BB8) (fun a _ => qz3) ?_
  intro v149_8 _
  refine R4 ?_
  refine S4 7 rfl fun one_v149_8 => ?_
  refine P6 0 rfl rfl rfl (A0 rfl) (A0 rfl) (M0 one_v149_8) rfl Tryz.sizeOf114 rfl ?_
  refine R1 ?_
  refine I5 AC9 ?_
  refine Z7 45 3 ?_
  refine AWP.le (C1 [1, 1, 1, 1, 1, 1, 1, 1, 0] rfl) ?_
  refine AWP.le (O2 8 (t := nin A3.ow P9 T ++ nin A2.ow (Q9.take (m + 1)) (L ++ [Value.slice none 0 0])) (Bl9 (x := (Value.slice none 0 0)) hq9 hinv.2)) ?_
  refine R4 ?_
  refine N7 m kv L (m + 1) (v149_8) (L ++ [Value.slice none 0 0]) ?_ ?_ (Le.trans (C1 [0, 0, 0, 0, 0, 0, 0, 0] rfl) (I8 (Eq.trans (by (rw [← AG2 (ocs := A2.ocs) (x := (Value.slice none 0 0)) hq9 hinv.2]; rfl)) (List.append_nil _).symm) ⟨rfl, rfl, rfl, rfl, rfl, rfl, trivial⟩))
  ·exact ⟨by omega, by rw [G2, hinv.2]; rfl⟩
  omega
 intro h131
 have k131 := of_decide_eq_false h131; try simp only [A5] at k131
 have hxL : L.length = ls.length := (by have h9 : ls.length ≤ m := (by simpa using h131); omega)
 rw [show Q9.take m = Q9 from List.take_of_length_le qz8]
 refine R7 ?_
 refine AWP.le (C1 [0, 1, 1, 1, 1, 1, 1, 0] rfl) ?_
 refine J7 [(6, _), (12, _), (13, _)] [] (fun (g : Nat) (v : TWorld) => g ≤ N ∧ WI v ∧ (v.Groups.length = N ∧ v.Count = 0) ∧ v.Txns = P9 ∧ v.Looks = Q9) (fun (g : Nat) (v : TWorld) => [.box b82 199 [AV.int v.Now, AV.int v.Count, AV.is cv, strs v.Cuts, AV.is gv, AV.is lv, AV.is pv, AV.is tv, AV.is kv], .arr cv 234 1 (v.Clocks.map V6.cs), .arr gv 178 3 (v.Groups.map TGroup.cs), .arr lv 203 1 (v.Locks.map fun l => [AV.list 3 (l.map I0.cs)]), .arr pv 3 1 (v.Promised.map fun n => [AV.int n]), .arr tv 143 10 (nrows A3.ocs v.Txns T), .arr kv 152 6 (nrows A2.ocs v.Looks L), .box b6 116 (List.map zeroA (Value.agg #[Value.int IntKind.i64 0, Value.int IntKind.i64 0, Value.slice none 0 0, Value.slice none 0 0, Value.slice none 0 0, Value.slice none 0 0, Value.slice none 0 0, Value.slice none 0 0, Value.slice none 0 0]).cells.toList)] ++ (nin A3.ow v.Txns T ++ nin A2.ow v.Looks L)) (fun (g : Nat) (v : TWorld) => [(21, AV.int g)]) (fun (g : Nat) (v : TWorld) => N - g) (0) (newW cuts ps ls) ?_ (I8 (by (rw [List.append_nil]; unfold newW; dsimp only; rw [hN, hP9, hQ9, Aa4, Aa4, Aa4, Aa4]; rfl)) ⟨rfl, rfl, rfl, rfl, trivial⟩) ?_
 ·exact ⟨Nat.zero_le _, hwi, ⟨(by unfold newW; dsimp only; rw [List.length_replicate]; exact hN), rfl⟩, (by rw [← hP9, ← hN]; rfl), (by rw [← hQ9, ← hN]; rfl)⟩
 intro g v hinv
 refine I5 (List.append_nil _) ?_
 refine R7 ?_
 refine A8 (A0 rfl) ?_ ?_
 ·intro h156
  have k156 := of_decide_eq_true h156; try simp only [A5] at k156
  have hgN : g < N := (by simp at h156; omega)
  refine R6 ?_
  refine A4 rfl (AT1 rfl D8 (A0 rfl) qz4) ?_
  refine I2 [0, 0, 0, 0, 0, 0, 0] 1 7 (nin A3.ow v.Txns T ++ nin A2.ow v.Looks L) ([]) (fun zz => nin A3.ow zz.1.Txns T ++ nin A2.ow zz.1.Looks L) rfl rfl rfl rfl Tryz.call165 rfl rfl (show List.Perm (nin A3.ow v.Txns T ++ nin A2.ow v.Looks L) ((nin A3.ow v.Txns T ++ nin A2.ow v.Looks L) ++ ([])) from B8) (BW9 b82 v ⟨cv, gv, lv, pv, tv, kv⟩ T L (3 * (g : Int)) hinv.2.1 (by rw [hinv.2.2.1.1]; omega)) (A1 (A0 rfl) (A1 (A0 rfl) A7)) (fun a => K0) ?_
  intro x162 ok162
  refine R6 ?_
  refine G9 g v (g + 1) (x162.1) ?_ ?_ (I8 (Eq.trans B0 (List.append_nil _).symm) ⟨rfl, rfl, rfl, rfl, trivial⟩)
  ·exact ⟨by omega, ok162.1, ⟨ok162.2.1.groups.trans hinv.2.2.1.1, ok162.2.1.count.trans hinv.2.2.1.2⟩, ok162.2.2.1.trans hinv.2.2.2.1, ok162.2.2.2.trans hinv.2.2.2.2⟩
  omega
 intro h156
 have k156 := of_decide_eq_false h156; try simp only [A5] at k156
 refine R2 ?_
 refine AWP.le (C1 [0, 6, 0, 0, 0, 0, 0, 0] rfl) ?_
 refine AWP.le (AK2 2 0 (.box b82 199 v.cs) rfl (⟨rfl, rfl, An8 (w := v) (X := ⟨cv, gv, lv, pv, tv, kv⟩) (T := T) (L := L) (by rw [hinv.2.2.2.1, hxT, ← hP9, A5]) (by rw [hinv.2.2.2.2, hxL, ← hQ9, Av0]) (fun _ ho => ho)⟩) M9) ?_
 refine R5 ?_
 refine A4 rfl (B2 rfl Tryz.call143 rfl (Ah7 v hinv.2.1) (A1 (A0 rfl) A7)) ?_
 refine R4 ?_
 exact G1 [] (v) (⟨hinv.2.1, newW_wq cuts ps ls v (by rw [hinv.2.2.2.1, ← hP9, ← hN]; rfl) (by rw [hinv.2.2.2.2, ← hQ9, ← hN]; rfl) hinv.2.2.1.2⟩) rfl B0 (N4 rfl D0 (B6 (G7 (ys := _) 1 rfl rfl V5 O1 rfl) (B6 (A6 rfl B0) E8)))
end Go.Proofs.YtcfkbhnpfjjmjaaGreat
