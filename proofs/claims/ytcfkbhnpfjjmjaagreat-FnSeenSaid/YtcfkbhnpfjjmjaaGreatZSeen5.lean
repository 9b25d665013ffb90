/- Texts of the claim, part 5. -/
import Derived.Shelf.Strconv.Itoa3
import Derived.Test.YtcfkbhnpfjjmjaaGreatProg
import Derived.Test.YtcfkbhnpfjjmjaaGreatZSeen4
set_option linter.unusedVariables false
set_option linter.unusedSimpArgs false
set_option maxRecDepth 100000
set_option maxHeartbeats 4000000
namespace Go.M
open Go.AV
structure SO (s : G2) : Prop where
  floor : 0 ≤ s.Floor
  cells : w5 s.Cells
  hsort : s.Held.Pairwise fun a b => a.Txn < b.Txn
  tsort : s.Told.Pairwise fun a b => a.Txn < b.Txn
  times : ∀ h ∈ s.Held, 1 ≤ h.Time
theorem gs_so {s : G2} (g : GS s) : SO s := ⟨g.floor.1, AD6 g.cells, g.hsort, g.tsort, fun h hm => (CA8 g hm).1⟩
theorem Bv6 {t : Int} : ∀ {w : List A9} {l q : List C5}, w5 l → putAll l w t = some q → w5 q
  | [], l, q, h, e => by simp [putAll] at e; subst e; exact h
  | x :: w, l, q, h, e => by
    unfold putAll at e
    split at e
    · cases e
    · exact Bv6 (AH4 h _ _) e
theorem so_apply {s : G2} (g : SO s) {r : L1} (h : (applyS s r).2 = true) : SO (applyS s r).1 := by
  have h0 := g.floor
  have hless : SO ⟨s.Floor, s.Cells, lessH s.Held r.Txn, s.Told⟩ := ⟨h0, g.cells, g.hsort.sublist List.filter_sublist, g.tsort, fun k hk => g.times k (AD7.1 hk).1⟩
  unfold applyS at h ⊢
  by_cases h4 : r.Kind = 4
  · rw [if_pos h4] at h ⊢
    have := of_decide_eq_true h
    exact ⟨by dsimp only; omega, g.cells, g.hsort, g.tsort, g.times⟩
  · rw [if_neg h4] at h ⊢
    by_cases hT : hasT s.Told r.Txn = true
    · rw [if_pos hT] at h; cases h
    · rw [if_neg hT] at h ⊢
      rw [Bool.not_eq_true] at hT
      have htn := BC4.1 hT
      have htl : (insT ⟨r.Txn, r.Yes, r.Time⟩ s.Told).Pairwise fun a b => a.Txn < b.Txn := Ap6 g.tsort htn
      by_cases h1 : r.Kind = 1
      · rw [if_pos h1] at h ⊢
        simp only [Bool.and_eq_true, Bool.not_eq_true', decide_eq_true_eq] at h
        refine ⟨by dsimp only; omega, g.cells, Ap5 g.hsort (AJ3.1 h.1.1), g.tsort, fun k hk => ?_⟩
        rcases AJ2.1 hk with rfl | hk
        · show 1 ≤ r.Time; omega
        · exact g.times k hk
      · rw [if_neg h1] at h ⊢
        by_cases hy : r.Yes = true
        · rw [if_pos hy] at h ⊢
          cases hf : findH s.Held r.Txn with
          | none => rw [hf] at h; cases h
          | some k =>
            rw [hf] at h
            dsimp only at h ⊢
            by_cases hlt : r.Time < k.Time
            · rw [if_pos hlt] at h; cases h
            · rw [if_neg hlt] at h ⊢
              by_cases hp : (putP s.Cells k.Writes r.Time).2 = true
              · rw [if_pos hp]
                exact ⟨by unfold AG3; dsimp only; split <;> omega, Bv6 g.cells (BO8 hp).1, hless.hsort, htl, hless.times⟩
              · rw [if_neg hp] at h; cases h
        · rw [if_neg hy]
          exact ⟨h0, g.cells, hless.hsort, htl, hless.times⟩
theorem so_step {s : G2} (g : SO s) (r : L1) : SO (o9 s r) := by
  unfold o9
  split
  · exact so_apply g ‹_›
  · exact g
theorem so_zero : SO d3 := gs_so Av6
theorem Bv7 : ∀ {l : List L1} {s : G2}, SO s → SO (stFrom s l)
  | [], s, g => g
  | r :: l, s, g => by
    show SO (stFrom (o9 s r) l)
    exact Bv7 (so_step g r)
theorem Aa2 {l : List E3} {i : Nat} {h : E3} {n : Int} (hx : l[i]? = some h) : lessH (l.take (i + 1)) n = if (h.Txn != n) = true then lessH (l.take i) n ++ [h] else lessH (l.take i) n := by
  unfold lessH
  rw [List.take_add_one, hx, List.filter_append]
  show _ ++ List.filter _ [h] = _
  split
  · rename_i e; rw [List.filter_cons_of_pos (p := fun h : E3 => h.Txn != n) e]; rfl
  · rename_i e; rw [List.filter_cons_of_neg (p := fun h : E3 => h.Txn != n) e]; simp
end Go.M
namespace Go.Proofs.YtcfkbhnpfjjmjaaGreat
open Go Go.AV Go.M
attribute [local irreducible] OpW OpA OpS AWP B9 J2 C9 OpE RetOk H0 I6 Le Ev F1 J8 Int.tmod Int.tdiv IntKind.wrap
theorem BI3 (s : G2) (rs : List Str) (ws : List A9) (hs : s.size ≤ 400000) (hw : sizeL A9.size ws ≤ 400000) : B9 Tryz.prog 221 [AV.agg s.cs, strs rs, AV.list 3 (ws.map A9.cs)] (AV.bool (fits s rs ws)) := by
 obtain ⟨hs1, hs2, hs3, hs4, hs5⟩ := s6 hs
 have hrm : room s.Cells (ws ++ hWs s.Held) = room s.Cells (hWs s.Held ++ ws) := BU2 fun w => by rw [List.mem_append, List.mem_append, or_comm]
 refine B7 Tryz.func221 rfl Tryz.ntmps221 rfl ?_
 refine R3 ?_
 intro b3
 refine R11 ?_
 refine E2 [(1, _), (2, _), (3, _), (10, _), (11, _)] _ (fun (i : Nat) => i ≤ s.Held.length ∧ (s.Held.all fun h => apart h rs ws) = ((s.Held.drop i).all fun h => apart h rs ws)) (fun (i : Nat) => []) (fun (i : Nat) => [(12, AV.int i)]) (fun (i : Nat) => s.Held.length - i) (0) ?_ (E7 ⟨rfl, rfl, rfl, rfl, rfl, rfl, trivial⟩) ?_
 ·exact ⟨Nat.zero_le _, rfl⟩
 intro i hinv
 refine R5 ?_
 refine A6 (A0 rfl) ?_ ?_
 ·intro h13
  have k13 := of_decide_eq_true h13; try simp only [A5] at k13
  have hlt : i < s.Held.length := by omega
  obtain ⟨h, hx⟩ := get_some hlt
  refine R5 ?_
  refine A4 rfl (C7 rfl I8 N8 (A0 rfl) (A0 rfl) hx qz3) ?_
  refine R2 ?_
  intro b8
  refine R7 ?_
  refine A4 rfl (B2 rfl Tryz.call235 rfl (apart_spec _ _ _) (A1 (A0 rfl) (A1 (A0 rfl) (A1 (A0 rfl) A7)))) ?_
  refine R2 ?_
  refine A6 (A0 rfl) ?_ ?_
  ·intro h20
   have hfin : fits s rs ws = false := by (unfold fits; rw [hinv.2, drop_some hx, List.all_cons, show apart h rs ws = false by simpa using h20]; rfl)
   refine R5 ?_
   exact D4 rfl (A8 rfl qz131)
  intro h20
  refine R5 ?_
  refine E9 i (i + 1) ?_ ?_ (O4 1 ⟨rfl, rfl, rfl, rfl, rfl, rfl, trivial⟩)
  ·exact ⟨by omega, by rw [hinv.2, drop_some hx, List.all_cons, show apart h rs ws = true by simpa using h20]; rfl⟩
  omega
 intro h13
 have k13 := of_decide_eq_false h13; try simp only [A5] at k13
 have hge : s.Held.length ≤ i := by omega
 have hap : (s.Held.all fun h => apart h rs ws) = true := by (rw [hinv.2, List.drop_eq_nil_of_le hge]; rfl)
 refine R10 ?_
 refine L4 rfl (fun hc => B2 rfl Tryz.call236 rfl (CA9 _ _ Y0 Y0) (A1 (B1 rfl hc) (A1 (B1 rfl hc) A7))) ?_
 refine R4 ?_
 exact D4 rfl (A8 rfl qz131)
theorem Bq0 (h : E3) (hs : h.size ≤ 1048576) : C9 Tryz.prog 234 [AV.agg h.cs] [] (fun _ : Value × Value => True) (fun x => E3.ow h x) (fun x => AV.agg (E3.ocs h x)) := by
  have h3 := L3 (f := fun x : Str => x.length) (l := h.Reads)
  have h4 := L3 (f := A9.size) (l := h.Writes)
  have h5 : h.size = sizeL (fun x => x.length) h.Reads + sizeL A9.size h.Writes := rfl
  refine C6 Tryz.func234 rfl Tryz.ntmps234 rfl ?_
  refine R3 ?_
  intro b1
  refine R1 ?_
  intro b2
  refine R5 ?_
  refine F0 [] rfl rfl rfl rfl Tryz.call163 rfl (AU2 h.Reads qz8) (A1 (A0 rfl) A7) rfl ?_
  intro x5 ok5
  refine R1 ?_
  refine Q5 0 rfl fun one_x5 => ?_
  refine O1 2 rfl rfl rfl (A0 rfl) (A0 rfl) (M0 one_x5) rfl c9 rfl ?_
  refine R3 ?_
  refine N3 rfl rfl rfl rfl C0 E5 ?_
  intro v7
  refine R2 ?_
  refine F6 (by' := 40) 0 rfl rfl rfl rfl C0 Tryz.type47 rfl rfl rfl rfl rfl rfl (A0 rfl) (A0 rfl) rfl Af5 ?_
  intro v10_1
  refine R1 ?_
  refine Q5 0 rfl fun one_v10_1 => ?_
  refine O1 3 rfl rfl rfl (A0 rfl) (A0 rfl) (M0 one_v10_1) rfl Tryz.sizeOf34 rfl ?_
  refine R7 ?_
  exact I0 [1, 0] (x5, v10_1) (trivial) rfl B0 (E4 rfl (H1 (ys := _) 2 rfl rfl Tryz.isAgg252 N8 rfl))
theorem AX5 (h : E3) (hs : h.size ≤ 1048576) : B9 Tryz.prog 234 [AV.agg h.cs] (AV.agg h.cs) :=
  K2 (Bq0 h hs) fun x _ => AW2 (E3.lc h x)
theorem Bq1 (l : List C5) (hs : sizeL C5.size l ≤ 4194304) : B9 Tryz.prog 233 [AV.list 2 (l.map C5.cs)] (AV.list 2 (l.map C5.cs)) :=
  K2 (BV7 l hs) fun x h => Ai0 C5.lcM h 0 rfl fun o ho => List.mem_cons_of_mem _ ho
theorem Bi9 (s : G2) (hs : s.size ≤ 1048576) : C9 Tryz.prog 218 [AV.agg s.cs] [] (fun _ : Value × Value => True) (fun x => G2.ow s x) (fun x => AV.agg (G2.ocs s x)) := by
 obtain ⟨hs1, hs2, hs3, hs4, hs5⟩ := s6 hs
 refine C6 Tryz.func218 rfl Tryz.ntmps218 rfl ?_
 refine R3 ?_
 intro b1
 refine R1 ?_
 intro b2
 refine R2 ?_
 refine Q8 _ 11 (.pure 0 (.pure 1 (.pure 2 (.pure 3 (.pure 4 (.pure 6 (.pure 7 (.e2 5 (.e2 8 (.pure 9 (.e1 10 .nil)) 10 (.e1 8 (.pure 9 .nil))) 10 (.e1 5 (.e1 8 (.pure 9 .nil))))))))))) F2 F2 rfl AK5 ?_
 refine R4 ?_
 refine K4 rfl rfl rfl (fun ext => B2 rfl Tryz.call233 rfl (Bq1 s.Cells qz8) (A1 (A0 rfl) A7)) ?_
 refine R2 ?_
 refine j5 ?_ ?_
 ·refine F7 rfl rfl rfl (Z4 rfl K7 P8) (fun a _ => qz4) ?_
  intro v11 _
  refine j5 ?_ ?_
  ·refine F7 rfl rfl rfl (S3 2 (fun _ => rfl) (J6 (by' := 24) 2 rfl K7 Tryz.type148 rfl rfl rfl rfl rfl rfl (A0 rfl) (A0 rfl) rfl Af5)) (fun a _ => qz4) ?_
   intro v14_1 hone_v14_1
   have one_v14_1 := hone_v14_1.2
   refine K4 rfl rfl rfl (fun ext => W0 (places := #[(0, 1), (1, 1), (2, 1), (3, 1)]) rfl c0 Tryz.zeroValue182 (fun w => by kernel_rfl) rfl (D7 (A0 rfl) (Q1 _ _) (D7 (A0 rfl) (Y1 _ _) (D7 (A0 rfl) (M0 one_v14_1) T7))) rfl) ?_
   refine R1 ?_
   refine F7 rfl rfl rfl (T2 rfl Tryz.zeroValue182 rfl) (fun a _ => qz4) ?_
   intro b3 _
   refine R12 ?_
   refine Z1 252 5 ?_
   refine AWP.le (C1 [4, 0] rfl) ?_
   refine J0 [(2, _), (3, _), (17, _), (18, _)] _ (fun (i : Nat) (v : Value) => i ≤ s.Held.length) (fun (i : Nat) (v : Value) => [.box b3 182 [AV.int s.Floor, AV.list 2 (s.Cells.map C5.cs), AV.is v, AV.is v14_1], .arr v 252 5 ((s.Held.take i).map E3.cs)]) (fun (i : Nat) (v : Value) => [(19, AV.int i)]) (fun (i : Nat) (v : Value) => s.Held.length - i) (0) ((Value.slice none 0 0)) ?_ (H7 B0 ⟨rfl, rfl, rfl, rfl, rfl, trivial⟩) ?_
   ·exact Nat.zero_le _
   intro i v hinv
   refine R5 ?_
   refine A6 (A0 rfl) ?_ ?_
   ·intro h20
    have k20 := of_decide_eq_true h20; try simp only [A5] at k20
    have hlt : i < s.Held.length := by omega
    obtain ⟨h, hx⟩ := get_some hlt
    obtain ⟨g1, g2, g3, g4, g5⟩ := AK7 hs2 hx
    refine R5 ?_
    refine A4 rfl (C7 rfl I8 N8 (A0 rfl) (A0 rfl) hx qz3) ?_
    refine R2 ?_
    intro b5
    refine R2 ?_
    refine L8 5 F2 F2 rfl ?_
    refine R3 ?_
    refine C3 rfl rfl (B2 rfl Tryz.call234 rfl (AX5 _ Y0) (A1 (A0 rfl) A7)) ?_
    refine R2 ?_
    refine F6 (by' := 72) 2 rfl rfl rfl rfl I8 Tryz.type252 rfl rfl rfl rfl rfl rfl (A0 rfl) (A0 rfl) rfl BM1 ?_
    intro v28_2
    refine R1 ?_
    refine Q5 2 rfl fun one_v28_2 => ?_
    refine O1 1 rfl rfl rfl (A0 rfl) (A0 rfl) (M0 one_v28_2) rfl Tryz.sizeOf180 rfl ?_
    refine R5 ?_
    refine G4 i v (i + 1) (v28_2) ?_ ?_ (Le.trans (C1 [0, 0, 0] rfl) (E0 1 (by exact congrArg (fun z => Own.box b3 182 [AV.int s.Floor, AV.list 2 (s.Cells.map C5.cs), AV.is v28_2, AV.is v14_1] :: Own.arr v28_2 252 5 z :: _) (AI0 (f := E3.cs) hx)) ⟨rfl, rfl, rfl, rfl, rfl, trivial⟩))
    ·omega
    omega
   intro h20
   have k20 := of_decide_eq_false h20; try simp only [A5] at k20
   have hge : i = s.Held.length := by omega
   rw [hge, List.take_length]
   refine R7 ?_
   exact I0 [1, 3] (v, v14_1) (trivial) rfl B0 (E4 rfl (H1 (ys := _) 2 rfl rfl T8 O7 rfl))
  refine F7 rfl rfl rfl (T2 rfl Tryz.zeroValue182 rfl) (fun a _ => qz4) ?_
  intro b3 _
  refine R1 ?_
  refine F7 rfl rfl rfl (S3 2 (fun _ => rfl) (J6 (by' := 24) 2 rfl K7 Tryz.type148 rfl rfl rfl rfl rfl rfl (A0 rfl) (A0 rfl) rfl Af5)) (fun a _ => qz4) ?_
  intro v14_3 hone_v14_3
  have one_v14_3 := hone_v14_3.2
  refine K4 rfl rfl rfl (fun ext => W0 (places := #[(0, 1), (1, 1), (2, 1), (3, 1)]) rfl c0 Tryz.zeroValue182 (fun w => by kernel_rfl) rfl (D7 (A0 rfl) (Q1 _ _) (D7 (A0 rfl) (Y1 _ _) (D7 (A0 rfl) (M0 one_v14_3) T7))) rfl) ?_
  refine R12 ?_
  refine Z1 252 5 ?_
  refine AWP.le (C1 [4, 0] rfl) ?_
  refine J0 [(2, _), (3, _), (17, _), (18, _)] _ (fun (i : Nat) (v : Value) => i ≤ s.Held.length) (fun (i : Nat) (v : Value) => [.box b3 182 [AV.int s.Floor, AV.list 2 (s.Cells.map C5.cs), AV.is v, AV.is v14_3], .arr v 252 5 ((s.Held.take i).map E3.cs)]) (fun (i : Nat) (v : Value) => [(19, AV.int i)]) (fun (i : Nat) (v : Value) => s.Held.length - i) (0) ((Value.slice none 0 0)) ?_ (H7 B0 ⟨rfl, rfl, rfl, rfl, rfl, trivial⟩) ?_
  ·exact Nat.zero_le _
  intro i v hinv
  refine R5 ?_
  refine A6 (A0 rfl) ?_ ?_
  ·intro h20
   have k20 := of_decide_eq_true h20; try simp only [A5] at k20
   have hlt : i < s.Held.length := by omega
   obtain ⟨h, hx⟩ := get_some hlt
   obtain ⟨g1, g2, g3, g4, g5⟩ := AK7 hs2 hx
   refine R5 ?_
   refine A4 rfl (C7 rfl I8 N8 (A0 rfl) (A0 rfl) hx qz3) ?_
   refine R2 ?_
   intro b5
   refine R2 ?_
   refine L8 5 F2 F2 rfl ?_
   refine R3 ?_
   refine C3 rfl rfl (B2 rfl Tryz.call234 rfl (AX5 _ Y0) (A1 (A0 rfl) A7)) ?_
   refine R2 ?_
   refine F6 (by' := 72) 2 rfl rfl rfl rfl I8 Tryz.type252 rfl rfl rfl rfl rfl rfl (A0 rfl) (A0 rfl) rfl BM1 ?_
   intro v28_4
   refine R1 ?_
   refine Q5 2 rfl fun one_v28_4 => ?_
   refine O1 1 rfl rfl rfl (A0 rfl) (A0 rfl) (M0 one_v28_4) rfl Tryz.sizeOf180 rfl ?_
   refine R5 ?_
   refine G4 i v (i + 1) (v28_4) ?_ ?_ (Le.trans (C1 [0, 0, 0] rfl) (E0 1 (by exact congrArg (fun z => Own.box b3 182 [AV.int s.Floor, AV.list 2 (s.Cells.map C5.cs), AV.is v28_4, AV.is v14_3] :: Own.arr v28_4 252 5 z :: _) (AI0 (f := E3.cs) hx)) ⟨rfl, rfl, rfl, rfl, rfl, trivial⟩))
   ·omega
   omega
  intro h20
  have k20 := of_decide_eq_false h20; try simp only [A5] at k20
  have hge : i = s.Held.length := by omega
  rw [hge, List.take_length]
  refine R7 ?_
  exact I0 [1, 3] (v, v14_3) (trivial) rfl B0 (E4 rfl (H1 (ys := _) 2 rfl rfl T8 O7 rfl))
 refine F7 rfl rfl rfl (T2 rfl Tryz.zeroValue182 rfl) (fun a _ => qz4) ?_
 intro b3 _
 refine R1 ?_
 refine F7 rfl rfl rfl (Z4 rfl K7 P8) (fun a _ => qz4) ?_
 intro v11 _
 refine R1 ?_
 refine F7 rfl rfl rfl (S3 3 (fun _ => rfl) (J6 (by' := 24) 3 rfl K7 Tryz.type148 rfl rfl rfl rfl rfl rfl (A0 rfl) (A0 rfl) rfl Af5)) (fun a _ => qz4) ?_
 intro v14_5 hone_v14_5
 have one_v14_5 := hone_v14_5.2
 refine K4 rfl rfl rfl (fun ext => W0 (places := #[(0, 1), (1, 1), (2, 1), (3, 1)]) rfl c0 Tryz.zeroValue182 (fun w => by kernel_rfl) rfl (D7 (A0 rfl) (Q1 _ _) (D7 (A0 rfl) (Y1 _ _) (D7 (A0 rfl) (M0 one_v14_5) T7))) rfl) ?_
 refine R12 ?_
 refine Z1 252 5 ?_
 refine AWP.le (C1 [3, 0] rfl) ?_
 refine J0 [(2, _), (3, _), (17, _), (18, _)] _ (fun (i : Nat) (v : Value) => i ≤ s.Held.length) (fun (i : Nat) (v : Value) => [.box b3 182 [AV.int s.Floor, AV.list 2 (s.Cells.map C5.cs), AV.is v, AV.is v14_5], .arr v 252 5 ((s.Held.take i).map E3.cs)]) (fun (i : Nat) (v : Value) => [(19, AV.int i)]) (fun (i : Nat) (v : Value) => s.Held.length - i) (0) ((Value.slice none 0 0)) ?_ (H7 B0 ⟨rfl, rfl, rfl, rfl, rfl, trivial⟩) ?_
 ·exact Nat.zero_le _
 intro i v hinv
 refine R5 ?_
 refine A6 (A0 rfl) ?_ ?_
 ·intro h20
  have k20 := of_decide_eq_true h20; try simp only [A5] at k20
  have hlt : i < s.Held.length := by omega
  obtain ⟨h, hx⟩ := get_some hlt
  obtain ⟨g1, g2, g3, g4, g5⟩ := AK7 hs2 hx
  refine R5 ?_
  refine A4 rfl (C7 rfl I8 N8 (A0 rfl) (A0 rfl) hx qz3) ?_
  refine R2 ?_
  intro b5
  refine R2 ?_
  refine L8 5 F2 F2 rfl ?_
  refine R3 ?_
  refine C3 rfl rfl (B2 rfl Tryz.call234 rfl (AX5 _ Y0) (A1 (A0 rfl) A7)) ?_
  refine R2 ?_
  refine F6 (by' := 72) 2 rfl rfl rfl rfl I8 Tryz.type252 rfl rfl rfl rfl rfl rfl (A0 rfl) (A0 rfl) rfl BM1 ?_
  intro v28_6
  refine R1 ?_
  refine Q5 2 rfl fun one_v28_6 => ?_
  refine O1 1 rfl rfl rfl (A0 rfl) (A0 rfl) (M0 one_v28_6) rfl Tryz.sizeOf180 rfl ?_
  refine R5 ?_
  refine G4 i v (i + 1) (v28_6) ?_ ?_ (Le.trans (C1 [0, 0, 0] rfl) (E0 1 (by exact congrArg (fun z => Own.box b3 182 [AV.int s.Floor, AV.list 2 (s.Cells.map C5.cs), AV.is v28_6, AV.is v14_5] :: Own.arr v28_6 252 5 z :: _) (AI0 (f := E3.cs) hx)) ⟨rfl, rfl, rfl, rfl, rfl, trivial⟩))
  ·omega
  omega
 intro h20
 have k20 := of_decide_eq_false h20; try simp only [A5] at k20
 have hge : i = s.Held.length := by omega
 rw [hge, List.take_length]
 refine R7 ?_
 exact I0 [1, 3] (v, v14_5) (trivial) rfl B0 (E4 rfl (H1 (ys := _) 2 rfl rfl T8 O7 rfl))
theorem Ba2 (s : G2) (hs : s.size ≤ 1048576) : B9 Tryz.prog 218 [AV.agg s.cs] (AV.agg s.cs) :=
  K2 (Bi9 s hs) fun x _ => AW2 (G2.lc s x)
theorem less_own (l : List E3) (n : Int) (hl : l.length ≤ 1048576) : C9 Tryz.prog 223 [AV.list 5 (l.map E3.cs), AV.int n] [] (fun _ : Value => True) (fun v => [.arr v 252 5 ((lessH l n).map E3.cs)]) (fun v => AV.is v) := by
 refine C6 Tryz.func223 rfl Tryz.ntmps223 rfl ?_
 refine R2 ?_
 refine A4 rfl (D6 rfl G8) ?_
 refine R3 ?_
 refine P1 252 5 rfl rfl rfl rfl G8 ?_
 intro v5
 refine R9 ?_
 refine Q4 [(1, _), (4, _), (8, _), (9, _)] _ (fun (i : Nat) (v : Value) (q : List E3) => i ≤ l.length ∧ q = lessH (l.take i) n ∧ q.length ≤ i) (fun (i : Nat) (v : Value) (q : List E3) => [.arr v 252 5 (q.map E3.cs)]) (fun (i : Nat) (v : Value) (q : List E3) => [(5, AV.is v), (10, AV.int i)]) (fun (i : Nat) (v : Value) (q : List E3) => l.length - i) (0) (v5) ([]) ?_ (H7 B0 ⟨rfl, rfl, rfl, rfl, rfl, rfl, trivial⟩) ?_
 ·exact ⟨Nat.zero_le _, rfl, Nat.le_refl _⟩
 intro i v q hinv
 refine R5 ?_
 refine A6 (A0 rfl) ?_ ?_
 ·intro h11
  have k11 := of_decide_eq_true h11; try simp only [A5] at k11
  have hlt : i < l.length := by omega
  obtain ⟨h, hx⟩ := get_some hlt
  refine R5 ?_
  refine A4 rfl (C7 rfl I8 N8 (A0 rfl) (A0 rfl) hx qz3) ?_
  refine R2 ?_
  intro b7
  refine R9 ?_
  refine A6 (A0 rfl) ?_ ?_
  ·intro h17
   have k17 := w8 h17; try simp only [A5] at k17
   refine R4 ?_
   refine F6 (by' := 72) 1 rfl rfl rfl rfl I8 Tryz.type252 rfl rfl rfl rfl rfl rfl (A0 rfl) (A0 rfl) rfl qz3 ?_
   intro v21_1
   refine R6 ?_
   refine L7 i v q (i + 1) (v21_1) (q ++ [h]) ?_ ?_ (Le.trans (C1 [0, 0] rfl) (E0 1 AL6 ⟨rfl, rfl, rfl, rfl, rfl, rfl, trivial⟩))
   ·first | exact ⟨by omega, by rw [Aa2 hx, if_pos h17, hinv.2.1], by rw [G3]; simp; omega⟩ | exact ⟨by omega, by rw [Aa2 hx, if_neg (by rw [h17]; decide), hinv.2.1], by omega⟩
   omega
  intro h17
  have k17 := c3 h17; try simp only [A5] at k17
  refine R5 ?_
  refine L7 i v q (i + 1) (v) (q) ?_ ?_ (Le.trans (C1 [0, 0] rfl) (E0 1 AL6 ⟨rfl, rfl, rfl, rfl, rfl, rfl, trivial⟩))
  ·first | exact ⟨by omega, by rw [Aa2 hx, if_pos h17, hinv.2.1], by rw [G3]; simp; omega⟩ | exact ⟨by omega, by rw [Aa2 hx, if_neg (by rw [h17]; decide), hinv.2.1], by omega⟩
  omega
 intro h11
 have k11 := of_decide_eq_false h11; try simp only [A5] at k11
 have hge : l.length ≤ i := by omega
 have hq := hinv.2.1
 rw [List.take_of_length_le hge] at hq
 rw [← hq]
 refine R7 ?_
 exact I0 [0] v (trivial) rfl B0 (E4 rfl (A8 rfl B0))
theorem BW7 (l : List E3) (n : Int) (hl : l.length ≤ 1048576) : B9 Tryz.prog 223 [AV.list 5 (l.map E3.cs), AV.int n] (AV.list 5 ((lessH l n).map E3.cs)) :=
  K2 (less_own l n hl) fun x _ => J5 (List.mem_singleton.2 rfl) F4
theorem put_csH (l : List E3) (k : Nat) (x : E3) : (l.take k ++ x :: l.drop k).map E3.cs = [] ++ (l.take (k : Int).toNat).map E3.cs ++ [x.cs] ++ ([] ++ (l.drop (k : Int).toNat).map E3.cs) := by simp
theorem Bq2 (l : List E3) (h : E3) (hs : l.Pairwise fun a b => a.Txn < b.Txn) (hl : l.length ≤ 1048576) : C9 Tryz.prog 220 [AV.list 5 (l.map E3.cs), AV.agg h.cs] [] (fun _ : Value => True) (fun v => [.arr v 252 5 ((insH h l).map E3.cs)]) (fun v => AV.is v) := by
 refine C6 Tryz.func220 rfl Tryz.ntmps220 rfl ?_
 refine R3 ?_
 intro b3
 refine A4 rfl (D6 rfl G8) ?_
 refine R9 ?_
 refine E2 [(0, _), (3, _), (4, _)] _ (fun (k : Nat) => k ≤ l.length ∧ ∀ i y, k ≤ i → l[i]? = some y → h.Txn < y.Txn) (fun (k : Nat) => []) (fun (k : Nat) => [(5, AV.int k)]) (fun (k : Nat) => k) (l.length) ?_ (E7 ⟨congrArg (fun z => some (AV.int z)) (by rw [A5]), rfl, rfl, rfl, trivial⟩) ?_
 ·exact ⟨Nat.le_refl _, fun i y h1 h2 => by (have := (List.getElem?_eq_some_iff.1 h2).1; omega)⟩
 intro k hinv
 obtain ⟨y, hy0⟩ : ∃ y : E3, 0 < k → l[k - 1]? = some y := by (by_cases h9 : 0 < k; (have h8 := hinv.1; exact ⟨_, fun _ => List.getElem?_eq_getElem (show k - 1 < l.length by omega)⟩); exact ⟨h, fun h8 => absurd h8 h9⟩)
 have hk1 : 0 < k → ((k : Int) - 1).toNat = k - 1 := fun _ => by omega
 refine R9 ?_
 refine L2 rfl (O5 rfl rfl rfl) (fun hc => t3 rfl I8 N8 (B1 rfl hc) (B1 rfl hc) (by have := of_decide_eq_true hc; have := hinv.1; omega) qz192) ?_
 refine R7 ?_
 refine A6 (A0 rfl) ?_ ?_
 ·intro h21
  have hkt : 0 < k ∧ h.Txn < y.Txn := by simpa using h21
  refine R7 ?_
  refine AA9 ?_
  refine E9 k (k - 1) ?_ ?_ (E7 ⟨congrArg (fun z => some (AV.int z)) qz8, rfl, rfl, rfl, trivial⟩)
  ·exact ⟨by omega, fun i z hi hz => if e : k ≤ i then hinv.2 i z e hz else qz113⟩
  omega
 intro h21
 have hng : 0 < k → ¬ h.Txn < y.Txn := fun h9 => by simpa [h9] using h21
 have hput : insH h l = l.take k ++ h :: l.drop k := BV8 hinv.1 (fun i x hi hx => by have h7 := hy0 qz8; have h8 := hng qz8; rcases Nat.lt_or_ge i (k - 1) with h6 | h6; (have := Bv5 (f := E3.Txn) hs h6 hx h7; omega); (have : i = k - 1 := qz8; subst this; rw [hx] at h7; injection h7 with h7; subst h7; omega)) (fun x hx => hinv.2 k x (Nat.le_refl _) hx)
 rw [hput]
 refine R3 ?_
 refine N3 rfl rfl rfl rfl I8 N8 ?_
 intro v24
 refine R2 ?_
 refine A4 rfl (AK2 rfl I8 N8 (A0 rfl) (A0 rfl) qz8 AC2) ?_
 refine F6 (by' := 72) 0 rfl rfl rfl rfl I8 Tryz.type252 rfl rfl rfl rfl rfl rfl (A0 rfl) (A0 rfl) rfl (by simp only [M6, A5, List.length_drop]; omega) ?_
 intro v28_1
 refine R3 ?_
 refine AWP.le (g6 [0] 6 rfl rfl (J5 (C4 (i := 0) rfl) F4) O0) ?_
 refine M3 _ [(1, false), (2, false), (3, false), (5, false), (6, false), (8, false), (0, true), (4, true), (7, true), (9, true)] F2 F2 rfl AK5 ?_
 refine R2 ?_
 refine M4 rfl rfl rfl (fun ext => i6 rfl I8 N8 (A0 rfl) (A0 rfl) qz8 AC2) ?_
 refine R3 ?_
 refine Q0 rfl rfl rfl (Z4 rfl I8 N8) (fun a _ => qz4) ?_
 intro v29 _
 refine Q0 rfl rfl rfl (J6 (by' := 72) 1 rfl I8 Tryz.type252 rfl rfl rfl rfl rfl rfl (A0 rfl) (A0 rfl) rfl BM7) (fun a _ => qz4) ?_
 intro v33_2 _
 refine Q0 rfl rfl rfl (J6 (by' := 72) 1 rfl I8 Tryz.type252 rfl rfl rfl rfl rfl rfl (A0 rfl) (A0 rfl) rfl BM7) (fun a _ => qz4) ?_
 intro v36_3 _
 refine Q0 rfl rfl rfl (J6 (by' := 72) 1 rfl I8 Tryz.type252 rfl rfl rfl rfl rfl rfl (A0 rfl) (A0 rfl) rfl BM7) (fun a _ => qz4) ?_
 intro v38_4 _
 refine R4 ?_
 exact I0 [1] v38_4 (trivial) rfl (by first | rfl | exact congrArg (fun z => [Own.arr _ 252 5 z]) (put_csH _ _ _)) (E4 rfl (A8 rfl B0))
theorem Bj0 (l : List E3) (h : E3) (hs : l.Pairwise fun a b => a.Txn < b.Txn) (hl : l.length ≤ 1048576) : B9 Tryz.prog 220 [AV.list 5 (l.map E3.cs), AV.agg h.cs] (AV.list 5 ((insH h l).map E3.cs)) :=
  K2 (Bq2 l h hs hl) fun x _ => J5 (List.mem_singleton.2 rfl) F4
theorem put_csT (l : List M1) (k : Nat) (x : M1) : (l.take k ++ x :: l.drop k).map M1.cs = [] ++ (l.take (k : Int).toNat).map M1.cs ++ [x.cs] ++ ([] ++ (l.drop (k : Int).toNat).map M1.cs) := by simp
theorem Bq3 (l : List M1) (h : M1) (hs : l.Pairwise fun a b => a.Txn < b.Txn) (hl : l.length ≤ 1048576) : C9 Tryz.prog 224 [AV.list 3 (l.map M1.cs), AV.agg h.cs] [] (fun _ : Value => True) (fun v => [.arr v 148 3 ((insT h l).map M1.cs)]) (fun v => AV.is v) := by
 refine C6 Tryz.func224 rfl Tryz.ntmps224 rfl ?_
 refine R3 ?_
 intro b3
 refine A4 rfl (D6 rfl G8) ?_
 refine R9 ?_
 refine E2 [(0, _), (3, _), (4, _)] _ (fun (k : Nat) => k ≤ l.length ∧ ∀ i y, k ≤ i → l[i]? = some y → h.Txn < y.Txn) (fun (k : Nat) => []) (fun (k : Nat) => [(5, AV.int k)]) (fun (k : Nat) => k) (l.length) ?_ (E7 ⟨congrArg (fun z => some (AV.int z)) (by rw [A5]), rfl, rfl, rfl, trivial⟩) ?_
 ·exact ⟨Nat.le_refl _, fun i y h1 h2 => by (have := (List.getElem?_eq_some_iff.1 h2).1; omega)⟩
 intro k hinv
 obtain ⟨y, hy0⟩ : ∃ y : M1, 0 < k → l[k - 1]? = some y := by (by_cases h9 : 0 < k; (have h8 := hinv.1; exact ⟨_, fun _ => List.getElem?_eq_getElem (show k - 1 < l.length by omega)⟩); exact ⟨h, fun h8 => absurd h8 h9⟩)
 have hk1 : 0 < k → ((k : Int) - 1).toNat = k - 1 := fun _ => by omega
 refine R9 ?_
 refine L2 rfl (O5 rfl rfl rfl) (fun hc => t3 rfl K7 P8 (B1 rfl hc) (B1 rfl hc) (by have := of_decide_eq_true hc; have := hinv.1; omega) qz192) ?_
 refine R7 ?_
 refine A6 (A0 rfl) ?_ ?_
 ·intro h21
  have hkt : 0 < k ∧ h.Txn < y.Txn := by simpa using h21
  refine R7 ?_
  refine AA9 ?_
  refine E9 k (k - 1) ?_ ?_ (E7 ⟨congrArg (fun z => some (AV.int z)) qz8, rfl, rfl, rfl, trivial⟩)
  ·exact ⟨by omega, fun i z hi hz => if e : k ≤ i then hinv.2 i z e hz else qz113⟩
  omega
 intro h21
 have hng : 0 < k → ¬ h.Txn < y.Txn := fun h9 => by simpa [h9] using h21
 have hput : insT h l = l.take k ++ h :: l.drop k := BV9 hinv.1 (fun i x hi hx => by have h7 := hy0 qz8; have h8 := hng qz8; rcases Nat.lt_or_ge i (k - 1) with h6 | h6; (have := Bv5 (f := M1.Txn) hs h6 hx h7; omega); (have : i = k - 1 := qz8; subst this; rw [hx] at h7; injection h7 with h7; subst h7; omega)) (fun x hx => hinv.2 k x (Nat.le_refl _) hx)
 rw [hput]
 refine R3 ?_
 refine N3 rfl rfl rfl rfl K7 P8 ?_
 intro v24
 refine R2 ?_
 refine A4 rfl (AK2 rfl K7 P8 (A0 rfl) (A0 rfl) qz8 AC2) ?_
 refine F6 (by' := 24) 0 rfl rfl rfl rfl K7 Tryz.type148 rfl rfl rfl rfl rfl rfl (A0 rfl) (A0 rfl) rfl (by simp only [M6, A5, List.length_drop]; omega) ?_
 intro v28_1
 refine R3 ?_
 refine AWP.le (g6 [0] 6 rfl rfl (J5 (C4 (i := 0) rfl) F4) O0) ?_
 refine M3 _ [(1, false), (2, false), (3, false), (5, false), (6, false), (8, false), (0, true), (4, true), (7, true), (9, true)] F2 F2 rfl AK5 ?_
 refine R2 ?_
 refine M4 rfl rfl rfl (fun ext => i6 rfl K7 P8 (A0 rfl) (A0 rfl) qz8 AC2) ?_
 refine R3 ?_
 refine Q0 rfl rfl rfl (Z4 rfl K7 P8) (fun a _ => qz4) ?_
 intro v29 _
 refine Q0 rfl rfl rfl (J6 (by' := 24) 1 rfl K7 Tryz.type148 rfl rfl rfl rfl rfl rfl (A0 rfl) (A0 rfl) rfl BM7) (fun a _ => qz4) ?_
 intro v33_2 _
 refine Q0 rfl rfl rfl (J6 (by' := 24) 1 rfl K7 Tryz.type148 rfl rfl rfl rfl rfl rfl (A0 rfl) (A0 rfl) rfl BM7) (fun a _ => qz4) ?_
 intro v36_3 _
 refine Q0 rfl rfl rfl (J6 (by' := 24) 1 rfl K7 Tryz.type148 rfl rfl rfl rfl rfl rfl (A0 rfl) (A0 rfl) rfl BM7) (fun a _ => qz4) ?_
 intro v38_4 _
 refine R4 ?_
 exact I0 [1] v38_4 (trivial) rfl (by first | rfl | exact congrArg (fun z => [Own.arr _ 148 3 z]) (put_csT _ _ _)) (E4 rfl (A8 rfl B0))
theorem Ar4 (l : List M1) (h : M1) (hs : l.Pairwise fun a b => a.Txn < b.Txn) (hl : l.length ≤ 1048576) : B9 Tryz.prog 224 [AV.list 3 (l.map M1.cs), AV.agg h.cs] (AV.list 3 ((insT h l).map M1.cs)) :=
  K2 (Bq3 l h hs hl) fun x _ => J5 (List.mem_singleton.2 rfl) F4
theorem Bq4 (l : List C5) (w : List A9) (t : Int) (ho : w5 l) (hs : sizeL C5.size l ≤ 1048576) (hw : sizeL A9.size w ≤ 1048576) (ht1 : 1 ≤ t) : B9 Tryz.prog 222 [AV.list 2 (l.map C5.cs), AV.list 3 (w.map A9.cs), AV.int t] (AV.tup [AV.list 2 ((putP l w t).1.map C5.cs), AV.bool (putP l w t).2]) :=
  K2 (CI8 l w t ho hs hw ht1) fun x h => u9 (D0 (Ai0 C5.lcM h 0 rfl fun o ho => List.mem_cons_of_mem _ ho) (D0 H2 U9))
theorem o4 (l : List Str) (hl : l.length ≤ 4194304) : B9 Tryz.prog 163 [strs l] (strs l) :=
  K2 (AU2 l hl) fun x _ => J5 (List.mem_singleton.2 rfl) F4
theorem Ar5 (a b : Int) : B9 Tryz.prog 23 [AV.int a, AV.int b] (AV.int (if a < b then b else a)) := by
 refine B7 Tryz.func23 rfl Tryz.ntmps23 rfl ?_
 refine R11 ?_
 refine A6 (A0 rfl) ?_ ?_
 ·intro h7
  have k7 := of_decide_eq_true h7; try simp only [A5] at k7
  have h9 := of_decide_eq_true h7
  refine R6 ?_
  exact D4 rfl (A8 rfl (by exact congrArg AV.int (by split <;> omega)))
 intro h7
 have k7 := of_decide_eq_false h7; try simp only [A5] at k7
 have h9 := of_decide_eq_false h7
 refine R7 ?_
 exact D4 rfl (A8 rfl (by exact congrArg AV.int (by split <;> omega)))
theorem Bq5 (s : G2) (r : L1) (g : SO s) (hs : s.size ≤ 300000) (hrs : r.size ≤ 300000) : B9 Tryz.prog 204 [AV.agg s.cs, AV.agg r.cs] (AV.tup [AV.agg (applyS s r).1.cs, AV.bool (applyS s r).2]) := by
 obtain ⟨hs1, hs2, hs3, hs4, hs5⟩ := s6 hs
 have hgc := g.cells
 have hgh := g.hsort
 have hgt := g.tsort
 have hr2 : r.size = sizeL (fun x : Str => x.length) r.Reads + sizeL A9.size r.Writes := rfl
 have hr3 := L3 (f := fun x : Str => x.length) (l := r.Reads)
 have hr4 := L3 (f := A9.size) (l := r.Writes)
 have hho := Ar0 s.Held r.Txn
 have hto := CJ0 s.Told r.Txn
 obtain ⟨h, hh⟩ : ∃ h, (heldFO s.Held r.Txn).1 = h := ⟨_, rfl⟩
 have hf1 : hasH s.Held r.Txn = true → findH s.Held r.Txn = some h := fun e => by
  rw [← hho] at e
  unfold heldFO at hh e
  cases hf : findH s.Held r.Txn with
  | none => rw [hf] at e; cases e
  | some x => rw [hf] at hh; exact congrArg some hh
 have hf0 : hasH s.Held r.Txn = false → findH s.Held r.Txn = none := fun e => BG4.2 e
 have hhs : hasH s.Held r.Txn = true → h.size ≤ 300000 ∧ 1 ≤ h.Time := fun e => by
  obtain ⟨h1, h2⟩ := AT8 (hf1 e)
  obtain ⟨i, hi⟩ := List.getElem?_of_mem h1
  exact ⟨(AK7 hs2 hi).1, g.times h h1⟩
 have hlen := Ay5 s.Held r.Txn
 have hll : (lessH s.Held r.Txn).length ≤ s.Held.length := List.length_filter_le _ _
 refine B7 Tryz.func204 rfl Tryz.ntmps204 rfl ?_
 refine R3 ?_
 intro b2
 refine R1 ?_
 intro b3
 refine R1 ?_
 intro b4
 refine R5 ?_
 refine A4 rfl (B2 rfl Tryz.call218 rfl (Ba2 s qz8) (A1 (A0 rfl) A7)) ?_
 refine R1 ?_
 intro b6
 refine R7 ?_
 refine A4 rfl (B2 rfl Tryz.call219 rfl (AE0 s r.Txn qz8) (A1 (A0 rfl) (A1 (A0 rfl) A7))) ?_
 refine R4 ?_
 intro b7
 refine R8 ?_
 refine A4 rfl (B2 rfl Tryz.call147 rfl (l7 s r.Txn qz8) (A1 (A0 rfl) (A1 (A0 rfl) A7))) ?_
 refine R4 ?_
 intro b9
 refine R6 ?_
 rw [hh]
 rw [hho, hto]
 refine R6 ?_
 refine A6 (A0 rfl) ?_ ?_
 ·intro h29
  have k29 := D1 h29; try simp only [A5] at k29
  have hk : r.Kind = 4 := by simpa using h29
  have he : applyS s r = (⟨r.Time, s.Cells, s.Held, s.Told⟩, decide (s.Floor < r.Time)) := by (unfold applyS; rw [if_pos hk])
  rw [he]
  refine R8 ?_
  refine AWP.le (C1 [2, 3, 3] rfl) ?_
  refine Q8 _ 7 (.pure 0 (.pure 1 (.pure 2 (.pure 3 (.pure 4 (.pure 5 (.e1 6 .nil))))))) F2 F2 rfl (O2 3) ?_
  refine R7 ?_
  refine c8 rfl rfl rfl (W8 5 rfl rfl (A0 rfl) (A0 rfl) (V2 _) rfl O7 rfl) (fun a _ => qz4) ?_
  intro _ _
  refine R4 ?_
  exact U2 rfl D3 (B8 (H1 (ys := _) 5 rfl rfl T8 O7 rfl) (B8 (A8 rfl B0) G6))
 intro h29
 have k29 := D5 h29; try simp only [A5] at k29
 have hk4 : r.Kind ≠ 4 := by simpa using h29
 refine R5 ?_
 refine A6 (A0 rfl) ?_ ?_
 ·intro h42
  have he : applyS s r = (s, false) := by (unfold applyS; rw [if_neg hk4, if_pos h42])
  rw [he]
  refine R7 ?_
  exact U2 rfl D3 (B8 (H1 (ys := _) 3 rfl rfl T8 O7 rfl) (B8 (A8 rfl B0) G6))
 intro h42
 have hT : hasT s.Told r.Txn = false := h42
 have hnT : ¬ hasT s.Told r.Txn = true := by (rw [hT]; decide)
 refine R7 ?_
 refine A6 (A0 rfl) ?_ ?_
 ·intro h45
  have k45 := D1 h45; try simp only [A5] at k45
  have hk1 : r.Kind = 1 := by simpa using h45
  have he : applyS s r = (⟨r.Time, s.Cells, insH (hOf r) s.Held, s.Told⟩, (!hasH s.Held r.Txn && decide (s.Floor < r.Time)) && fits s r.Reads r.Writes) := by (unfold applyS; rw [if_neg hk4, if_neg hnT, if_pos hk1])
  rw [he]
  refine R1 ?_
  refine M3 _ [(0, false), (1, false), (2, false), (3, false), (4, false), (5, false), (6, false), (7, false), (8, false), (9, false), (10, false), (12, false), (13, false), (11, true), (14, true), (15, false)] F2 F2 rfl AK5 ?_
  refine R10 ?_
  refine M4 rfl rfl rfl (fun ext => B2 rfl Tryz.call163 rfl (o4 _ qz8) (A1 (A0 rfl) A7)) ?_
  refine R2 ?_
  refine Q0 rfl rfl rfl (Z4 rfl C0 E5) (fun a _ => qz4) ?_
  intro v60 _
  refine Q0 rfl rfl rfl (AD5 [6] (fun _ => rfl) (fun _ => J5 (C4 (i := 0) rfl) F4) (fun _ => AZ3) (J6 (by' := 40) 6 rfl C0 Tryz.type47 rfl rfl rfl rfl rfl rfl (A0 rfl) (A0 rfl) rfl Af5)) (fun a _ => qz4) ?_
  intro v63_1 _
  refine R2 ?_
  refine A4 rfl (B2 rfl Tryz.call220 rfl (Bj0 s.Held (hOf r) hgh qz8) (A1 (A0 rfl) (A1 (A0 rfl) A7))) ?_
  refine R11 ?_
  refine AWP.le (C1 [2, 3, 3] rfl) ?_
  refine Q8 _ 19 (.pure 0 (.pure 1 (.pure 2 (.pure 3 (.pure 4 (.pure 5 (.pure 6 (.pure 7 (.pure 8 (.pure 9 (.pure 10 (.pure 11 (.pure 12 (.pure 13 (.pure 14 (.pure 15 (.pure 16 (.pure 17 (.e1 18 .nil))))))))))))))))))) F2 F2 rfl (O2 3) ?_
  refine R4 ?_
  refine AD4 rfl rfl (O5 rfl rfl rfl) (fun hc ext => Ad9 2 rfl Tryz.underlying221 rfl B6 (A0 rfl) rfl) ?_
  refine AD4 rfl rfl (O5 rfl rfl rfl) (fun hc ext => AV9 1 rfl (B1 rfl hc) rfl I7 rfl) ?_
  refine AD4 rfl rfl (O5 rfl rfl rfl) (fun hc ext => Ad9 0 rfl c0 rfl B6 (A0 rfl) rfl) ?_
  refine AD4 rfl rfl (O5 rfl rfl rfl) (fun hc ext => AV9 2 rfl (B1 rfl hc) rfl I7 rfl) ?_
  refine AD4 rfl rfl (O5 rfl rfl rfl) (fun hc ext => w_gtr rfl (B1 rfl hc) (B1 rfl hc)) ?_
  refine R2 ?_
  refine AD4 rfl rfl (O5 rfl rfl rfl) (fun hc ext => Bt3 2 rfl (A0 rfl) rfl T8 O7 rfl) ?_
  refine AD4 rfl rfl (O5 rfl rfl rfl) (fun hc ext => Ad9 4 rfl Tryz.underlying221 rfl c9 (A0 rfl) rfl) ?_
  refine AD4 rfl rfl (O5 rfl rfl rfl) (fun hc ext => AV9 1 rfl (B1 rfl hc) rfl Tryz.isAgg79 rfl) ?_
  refine AD4 rfl rfl (O5 rfl rfl rfl) (fun hc ext => Ad9 5 rfl Tryz.underlying221 rfl Tryz.sizeOf34 (A0 rfl) rfl) ?_
  refine AD4 rfl rfl (O5 rfl rfl rfl) (fun hc ext => AV9 1 rfl (B1 rfl hc) rfl Tryz.isAgg34 rfl) ?_
  refine AD4 rfl rfl (O5 rfl rfl rfl) (fun hc ext => B2 rfl Tryz.call221 rfl (BI3 s r.Reads r.Writes qz8 qz8) (A1 (B1 rfl hc) (A1 (B1 rfl hc) (A1 (B1 rfl hc) A7)))) ?_
  refine R2 ?_
  refine c8 rfl rfl rfl (W8 5 rfl rfl (A0 rfl) (A0 rfl) (V2 _) rfl O7 rfl) (fun a _ => qz4) ?_
  intro _ _
  refine R4 ?_
  exact U2 rfl D3 (B8 (H1 (ys := _) 5 rfl rfl T8 O7 rfl) (B8 (A8 rfl B0) G6))
 intro h45
 have k45 := D5 h45; try simp only [A5] at k45
 have hk1 : r.Kind ≠ 1 := by simpa using h45
 have hap : applyS s r = (if r.Yes = true then (match findH s.Held r.Txn with | none => (s, false) | some h => if r.Time < h.Time then (s, false) else if (putP s.Cells h.Writes r.Time).2 = true then (AG3 s r (if s.Floor < r.Time then r.Time else s.Floor) (putP s.Cells h.Writes r.Time).1, true) else (s, false)) else (AG3 s r s.Floor s.Cells, true)) := by (unfold applyS; rw [if_neg hk4, if_neg hnT, if_neg hk1]; rfl)
 refine R6 ?_
 refine A6 (A0 rfl) ?_ ?_
 ·intro h88
  refine R13 ?_
  refine A6 (A0 rfl) ?_ ?_
  ·intro h99
   have he : applyS s r = (s, false) := by (rw [hap, if_pos h88]; cases e : hasH s.Held r.Txn with | false => (rw [hf0 e]) | true => (rw [hf1 e]; dsimp only; rw [if_pos (by rw [e] at h99; simpa using h99)]))
   rw [he]
   refine R7 ?_
   exact U2 rfl D3 (B8 (H1 (ys := _) 3 rfl rfl T8 O7 rfl) (B8 (A8 rfl B0) G6))
  intro h99
  simp only [Bool.or_eq_false_iff, Bool.not_eq_false', decide_eq_false_iff_not] at h99
  obtain ⟨hhas, hnlt⟩ := h99
  obtain ⟨hz1, hz2⟩ := hhs hhas
  have hz3 : h.size = sizeL (fun x => x.length) h.Reads + sizeL A9.size h.Writes := rfl
  refine R9 ?_
  refine A4 rfl (B2 rfl Tryz.call222 rfl (Bq4 s.Cells h.Writes r.Time hgc qz8 qz8 qz8) (A1 (A0 rfl) (A1 (A0 rfl) (A1 (A0 rfl) A7)))) ?_
  refine R12 ?_
  refine A6 (A0 rfl) ?_ ?_
  ·intro h112
   have he : applyS s r = (s, false) := by (rw [hap, if_pos h88, hf1 hhas]; dsimp only; rw [if_neg qz8, if_neg (by simpa using h112)])
   rw [he]
   refine R7 ?_
   exact U2 rfl D3 (B8 (H1 (ys := _) 3 rfl rfl T8 O7 rfl) (B8 (A8 rfl B0) G6))
  intro h112
  have he : applyS s r = (AG3 s r (if s.Floor < r.Time then r.Time else s.Floor) (putP s.Cells h.Writes r.Time).1, true) := by (rw [hap, if_pos h88, hf1 hhas]; dsimp only; rw [if_neg qz8, if_pos (by simpa using h112)])
  rw [he]
  unfold AG3
  refine R12 ?_
  refine A4 rfl (B2 rfl Tryz.call23 rfl (Ar5 _ _) (A1 (A0 rfl) (A1 (A0 rfl) A7))) ?_
  refine R9 ?_
  refine A4 rfl (B2 rfl Tryz.call223 rfl (BW7 s.Held r.Txn qz8) (A1 (A0 rfl) (A1 (A0 rfl) A7))) ?_
  refine R14 ?_
  refine A4 rfl (B2 rfl Tryz.call224 rfl (Ar4 s.Told ⟨r.Txn, r.Yes, r.Time⟩ hgt qz8) (A1 (A0 rfl) (A1 (A0 rfl) A7))) ?_
  refine R10 ?_
  exact U2 rfl D3 (B8 (H1 (ys := _) 3 rfl rfl T8 O7 rfl) (B8 (A8 rfl B0) G6))
 intro h88
 have he : applyS s r = (AG3 s r s.Floor s.Cells, true) := by (rw [hap, if_neg (by rw [h88]; decide)])
 rw [he]
 unfold AG3
 refine R7 ?_
 refine A4 rfl (B2 rfl Tryz.call223 rfl (BW7 s.Held r.Txn qz8) (A1 (A0 rfl) (A1 (A0 rfl) A7))) ?_
 refine R14 ?_
 refine A4 rfl (B2 rfl Tryz.call224 rfl (Ar4 s.Told ⟨r.Txn, r.Yes, r.Time⟩ hgt qz8) (A1 (A0 rfl) (A1 (A0 rfl) A7))) ?_
 refine R10 ?_
 exact U2 rfl D3 (B8 (H1 (ys := _) 3 rfl rfl T8 O7 rfl) (B8 (A8 rfl B0) G6))
end Go.Proofs.YtcfkbhnpfjjmjaaGreat
namespace Go.M
open Go.AV
end Go.M
namespace Go.Proofs.YtcfkbhnpfjjmjaaGreat
open Go Go.AV Go.M
attribute [local irreducible] OpW OpA OpS AWP B9 J2 C9 OpE RetOk H0 I6 Le Ev F1 J8 Int.tmod Int.tdiv IntKind.wrap
theorem Bq6 (s : G2) (k : Str) (t : Int) (hs : s.size ≤ 1048576) : C9 Tryz.prog 201 [AV.agg s.cs, AV.str k, AV.int t] [] (fun _ : Value => True) (fun x => [.arr x 3 1 ((o7 s.Held k t).map fun n => [AV.int n])]) (fun x => AV.is x) := by
 obtain ⟨hs1, hs2, hs3, hs4, hs5⟩ := s6 hs
 refine C6 Tryz.func201 rfl Tryz.ntmps201 rfl ?_
 refine R3 ?_
 intro b3
 refine A4 rfl (D6 rfl G8) ?_
 refine R3 ?_
 refine P1 3 1 rfl rfl rfl rfl G8 ?_
 intro v7
 refine R10 ?_
 refine Q4 [(1, _), (2, _), (6, _), (11, _), (12, _)] _ (fun (i : Nat) (v : Value) (ns : List Int) => i ≤ s.Held.length ∧ ns = o7 (s.Held.take i) k t) (fun (i : Nat) (v : Value) (ns : List Int) => [.arr v 3 1 (ns.map fun n => [AV.int n])]) (fun (i : Nat) (v : Value) (ns : List Int) => [(7, AV.is v), (13, AV.int i)]) (fun (i : Nat) (v : Value) (ns : List Int) => s.Held.length - i) (0) (v7) ([]) ?_ (H7 B0 ⟨rfl, rfl, rfl, rfl, rfl, rfl, rfl, trivial⟩) ?_
 ·exact ⟨Nat.zero_le _, rfl⟩
 intro i v ns hinv
 refine R5 ?_
 refine A6 (A0 rfl) ?_ ?_
 ·intro h14
  have k14 := of_decide_eq_true h14; try simp only [A5] at k14
  have hlt : i < s.Held.length := by omega
  obtain ⟨h, hx⟩ := get_some hlt
  have hnl : ns.length ≤ 1048576 := by (rw [hinv.2]; have h9 := CA7 (s.Held.take i) k t; rw [G9] at h9; omega)
  refine R5 ?_
  refine A4 rfl (C7 rfl I8 N8 (A0 rfl) (A0 rfl) hx qz3) ?_
  refine R2 ?_
  intro b9
  refine R12 ?_
  refine L4 rfl (fun hc => B2 rfl Tryz.call50 rfl (AN1 _ _) (A1 (B1 rfl hc) (A1 (B1 rfl hc) A7))) ?_
  refine R2 ?_
  refine A6 (A0 rfl) ?_ ?_
  ·intro h26
   refine R5 ?_
   refine F6 (by' := 8) 1 rfl rfl rfl rfl B4 Tryz.type3 rfl rfl rfl rfl rfl rfl (A0 rfl) (A0 rfl) rfl qz3 ?_
   intro v31_1
   refine R6 ?_
   refine L7 i v ns (i + 1) (v31_1) (ns ++ [h.Txn]) ?_ ?_ (Le.trans (C1 [0, 0] rfl) (E0 1 AL6 ⟨rfl, rfl, rfl, rfl, rfl, rfl, rfl, trivial⟩))
   ·first | exact ⟨by omega, by rw [BH7 hx Bc0, hinv.2]⟩ | exact ⟨by omega, by rw [BW0 hx Bc0, hinv.2]⟩
   omega
  intro h26
  refine R5 ?_
  refine L7 i v ns (i + 1) (v) (ns) ?_ ?_ (Le.trans (C1 [0, 0] rfl) (E0 1 AL6 ⟨rfl, rfl, rfl, rfl, rfl, rfl, rfl, trivial⟩))
  ·first | exact ⟨by omega, by rw [BH7 hx Bc0, hinv.2]⟩ | exact ⟨by omega, by rw [BW0 hx Bc0, hinv.2]⟩
  omega
 intro h14
 have k14 := of_decide_eq_false h14; try simp only [A5] at k14
 have hge : s.Held.length ≤ i := by omega
 have hns := hinv.2
 rw [List.take_of_length_le hge] at hns
 rw [← hns]
 refine R7 ?_
 exact I0 [0] v (trivial) rfl B0 (E4 rfl (A8 rfl B0))
theorem Ar6 (s : G2) (k : Str) (t : Int) (hs : s.size ≤ 1048576) : B9 Tryz.prog 201 [AV.agg s.cs, AV.str k, AV.int t] (ints (o7 s.Held k t)) :=
  K2 (Bq6 s k t hs) fun x _ => J5 (List.mem_singleton.2 rfl) F4
theorem of_own (l : List L1) (hl : l.length ≤ 60) (hr : ∀ r ∈ l, r.size ≤ 1100) : C9 Tryz.prog 187 [AV.list 7 (l.map L1.cs)] [] (fun _ : Value => True) (fun x => [.arr x 4 1 ((didFrom d3 l).map fun b => [AV.bool b])]) (fun x => AV.tup [AV.agg (stFrom d3 l).cs, AV.is x]) := by
 have hgs : ∀ i, SO (stFrom d3 (l.take i)) := fun i => Bv7 so_zero
 have hsz : ∀ i, (stFrom d3 (l.take i)).size ≤ 300000 := fun i => by
  have h1 := size_phi (stFrom d3 (l.take i))
  have h2 := Bi1 (m := 1100) (s := d3) (l := l.take i) fun r hr2 => hr r (List.mem_of_mem_take hr2)
  have h3 : phi d3 = 0 := rfl
  have h4 : (l.take i).length ≤ 60 := by rw [G9]; omega
  have h5 : (l.take i).length * (3 * (1 + 1100) + 1) ≤ 60 * 3304 := Nat.mul_le_mul h4 D3
  omega
 refine C6 Tryz.func187 rfl Tryz.ntmps187 rfl ?_
 refine R3 ?_
 intro b2
 refine A4 rfl (D6 rfl G8) ?_
 refine R4 ?_
 intro b4
 refine R3 ?_
 refine P1 4 1 rfl rfl rfl rfl G8 ?_
 intro v5
 refine R3 ?_
 refine AWP.le (AF3 1 1 2 rfl rfl O0) ?_
 refine AWP.le (AF3 1 2 5 rfl rfl O0) ?_
 refine AWP.le (AF3 1 3 3 rfl rfl O0) ?_
 refine R6 ?_
 refine AWP.le (C1 [1, 0] rfl) ?_
 refine Q4 [(2, _), (3, _), (4, _), (10, _), (11, _)] _ (fun (i : Nat) (v : Value) (bs : List Bool) => i ≤ l.length ∧ bs = didFrom d3 (l.take i) ∧ bs.length ≤ i) (fun (i : Nat) (v : Value) (bs : List Bool) => [.box b4 182 (stFrom d3 (l.take i)).cs, .arr v 4 1 (bs.map fun b => [AV.bool b])]) (fun (i : Nat) (v : Value) (bs : List Bool) => [(5, AV.is v), (12, AV.int i)]) (fun (i : Nat) (v : Value) (bs : List Bool) => l.length - i) (0) (v5) ([]) ?_ (H7 B0 ⟨rfl, rfl, rfl, rfl, rfl, rfl, rfl, trivial⟩) ?_
 ·exact ⟨Nat.zero_le _, rfl, Nat.le_refl _⟩
 intro i v bs hinv
 refine R5 ?_
 refine A6 (A0 rfl) ?_ ?_
 ·intro h13
  have k13 := of_decide_eq_true h13; try simp only [A5] at k13
  have hlt : i < l.length := by omega
  obtain ⟨r, hx⟩ := get_some hlt
  have hgr := hr r (C4 hx)
  have hgi := hgs i
  have hsi := hsz i
  refine R5 ?_
  refine A4 rfl (C7 rfl Tryz.underlying224 Tryz.sizeOf221 (A0 rfl) (A0 rfl) hx qz3) ?_
  refine R2 ?_
  intro b7
  refine R6 ?_
  refine A4 rfl (B2 rfl Tryz.call204 rfl (Bq5 (stFrom d3 (l.take i)) r hgi qz8 qz8) (A1 (A0 rfl) (A1 (A0 rfl) A7))) ?_
  refine R4 ?_
  intro b8
  refine R8 ?_
  refine A6 (A0 rfl) ?_ ?_
  ·intro h22
   have hstep : (applyS (stFrom d3 (l.take i)) r).1 = o9 (stFrom d3 (l.take i)) r := by (unfold o9; rw [if_pos h22])
   refine R8 ?_
   refine F6 (by' := 1) 3 rfl rfl rfl rfl Tryz.underlying135 Tryz.type4 rfl rfl rfl rfl rfl rfl (A0 rfl) (A0 rfl) rfl qz3 ?_
   intro v27_1
   refine R6 ?_
   refine L7 i v bs (i + 1) (v27_1) (bs ++ [(applyS (stFrom d3 (l.take i)) r).2]) ?_ ?_ (Le.trans (C1 [0, 0, 0, 0] rfl) (E0 2 (by first | (rw [List.map_append, Ay4 hx, ← hstep]; rfl) | rfl) ⟨rfl, rfl, rfl, rfl, rfl, rfl, rfl, trivial⟩))
   ·exact ⟨by omega, by rw [Aq9 hx, hinv.2.1], by rw [G3]; simp; omega⟩
   omega
  intro h22
  have hstep : stFrom d3 (l.take i) = o9 (stFrom d3 (l.take i)) r := by (conv => rhs; unfold o9; rw [if_neg (by rw [h22]; decide)])
  refine R5 ?_
  refine F6 (by' := 1) 3 rfl rfl rfl rfl Tryz.underlying135 Tryz.type4 rfl rfl rfl rfl rfl rfl (A0 rfl) (A0 rfl) rfl qz3 ?_
  intro v27_2
  refine R6 ?_
  refine L7 i v bs (i + 1) (v27_2) (bs ++ [(applyS (stFrom d3 (l.take i)) r).2]) ?_ ?_ (Le.trans (C1 [0, 0, 0, 0] rfl) (E0 2 (by first | (rw [List.map_append, Ay4 hx, ← hstep]; rfl) | rfl) ⟨rfl, rfl, rfl, rfl, rfl, rfl, rfl, trivial⟩))
  ·exact ⟨by omega, by rw [Aq9 hx, hinv.2.1], by rw [G3]; simp; omega⟩
  omega
 intro h13
 have k13 := of_decide_eq_false h13; try simp only [A5] at k13
 have hge : i = l.length := by omega
 have hbs := hinv.2.1
 rw [hge, List.take_length] at hbs
 rw [hge, List.take_length, ← hbs]
 refine R9 ?_
 exact I0 [1] v (trivial) rfl B0 (U3 rfl D3 (B8 (H1 (ys := _) 2 rfl rfl T8 O7 rfl) (B8 (A8 rfl B0) G6)))
theorem ofF_spec (l : List L1) (hl : l.length ≤ 60) (hr : ∀ r ∈ l, r.size ≤ 1100) : B9 Tryz.prog 187 [AV.list 7 (l.map L1.cs)] (AV.tup [AV.agg (stFrom d3 l).cs, AV.list 1 ((didFrom d3 l).map fun b => [AV.bool b])]) :=
  K2 (of_own l hl hr) fun x _ => u9 (D0 H2 (D0 (J5 (C4 (i := 0) rfl) F4) U9))
end Go.Proofs.YtcfkbhnpfjjmjaaGreat
namespace Go.Proofs.YtcfkbhnpfjjmjaaGreat
open Go Go.AV Go.M
attribute [local irreducible] OpW OpA OpS AWP B9 J2 C9 OpE RetOk H0 I6 Le Ev F1 J8 Int.tmod IntKind.wrap bandI
theorem CB7 (b : Nat) (code : List Int) (hcode : Z2 code) (c : N6) (hp : c.p ≤ 6000000) : C9 Tryz.prog 107 [AV.ptr b 0] [.box b 55 (S0 code c)] (fun x : N6 × Str => x.1.p ≤ c.p + 2 ∧ x.2.length ≤ 64) (fun x => [.box b 55 (S0 code x.1)]) (fun x => AV.str x.2) := by
  refine C6 Tryz.func107 rfl Tryz.ntmps107 rfl ?_
  refine R2 ?_
  refine A4 rfl (D6 rfl (L5 (l := []) rfl)) ?_
  refine R4 ?_
  refine A4 rfl (AI6 rfl F9 K3 Tryz.zeroValue9 rfl rfl rfl rfl (D7 (L5 (l := []) rfl) (U8 _) (D7 (L5 (l := [49]) rfl) (U8 _) (D7 (L5 (l := [55]) rfl) (U8 _) (D7 (L5 (l := [49, 48]) rfl) (U8 _) (D7 (L5 (l := [45, 51]) rfl) (U8 _) (D7 (L5 (l := [120]) rfl) (U8 _) (D7 (L5 (l := [97, 44, 98, 95, 99]) rfl) (U8 _) T7))))))) rfl rfl) ?_
  refine F0 [0] rfl rfl rfl rfl Tryz.call133 rfl (CI3 _ _ hcode _ ([[], [49], [55], [49, 48], [45, 51], [120], [97, 44, 98, 95, 99]] : List Str) D3 qz8) (A1 (A0 rfl) (A1 (A0 rfl) A7)) rfl ?_
  intro x5 ok5
  refine R3 ?_
  (refine I0 [0] ((_, _)) ?_ rfl V7 (E4 rfl (A8 rfl B0)); exact ok5)
end Go.Proofs.YtcfkbhnpfjjmjaaGreat
namespace Go.M
open Go.AV
theorem BW8 (s : Str) : ∀ l : List Str, sizeL (fun x : Str => x.length) (putS l s) ≤ sizeL (fun x : Str => x.length) l + s.length + 1
  | [] => by unfold putS sizeL; simp; omega
  | y :: l => by
    have ih := BW8 s l
    have hc : ∀ (z : Str) (q : List Str), sizeL (fun x : Str => x.length) (z :: q) = sizeL (fun x : Str => x.length) q + z.length + 1 := fun z q => by unfold sizeL; simp; omega
    unfold putS
    split
    · rw [hc s]; omega
    · split
      · omega
      · rw [hc, hc]; omega
end Go.M
namespace Go.Proofs.YtcfkbhnpfjjmjaaGreat
open Go Go.AV Go.M
attribute [local irreducible] OpW OpA OpS AWP B9 J2 C9 OpE RetOk H0 I6 Le Ev F1 J8 Int.tmod Int.tdiv IntKind.wrap bandI
theorem Z9 (a b : Int) : B9 Tryz.prog 23 [AV.int a, AV.int b] (AV.int (if b < a then a else b)) := by
 refine B7 Tryz.func23 rfl Tryz.ntmps23 rfl ?_
 refine R11 ?_
 refine A6 (A0 rfl) ?_ ?_
 ·intro h7
  have k7 := of_decide_eq_true h7; try simp only [A5] at k7
  rw [if_pos (of_decide_eq_true h7)]
  refine R6 ?_
  exact D4 rfl (A8 rfl B0)
 intro h7
 have k7 := of_decide_eq_false h7; try simp only [A5] at k7
 rw [if_neg (of_decide_eq_false h7)]
 refine R7 ?_
 exact D4 rfl (A8 rfl B0)
end Go.Proofs.YtcfkbhnpfjjmjaaGreat
namespace Go.M
open Go.AV
theorem Ar7 {α : Type} {f : α → Nat} {c : Nat} : ∀ {l : List α}, (∀ x ∈ l, f x ≤ c) → sizeL f l ≤ l.length * (c + 1)
  | [], _ => Nat.zero_le _
  | x :: l, h => by
    have h1 := Ar7 (l := l) fun y hy => h y (List.mem_cons_of_mem _ hy)
    have h2 := h x List.mem_cons_self
    unfold sizeL at h1 ⊢
    simp only [H4, List.map_cons, List.sum_cons]
    have : (l.length + 1) * (c + 1) = l.length * (c + 1) + (c + 1) := Nat.succ_mul _ _
    omega
theorem gr_size {r : E6} {t : Int} (h : GR r t) : r.size ≤ 60 * 401 := by
  unfold E6.size
  refine Nat.le_trans (Ar7 (c := 400) fun e he => ?_) (Nat.mul_le_mul_right _ h.len)
  exact AI3 (h.ents e he).2.2
theorem Ae7 {g : TGroup} (h : GG g) : g.size ≤ 5 * 24061 := by
  unfold TGroup.size
  refine Nat.le_trans (Ar7 (c := 24060) fun r hr => gr_size (h.reps r hr)) (Nat.mul_le_mul_right _ ?_)
  rcases h.many with k | k <;> omega
theorem Bq7 {a b : List J1} {i : Nat} {x y : J1} (h : a.take i = b.take i) (hx : a[i]? = some x) (hy : b[i]? = some y) (he : x = y) : a.take (i + 1) = b.take (i + 1) := by
  rw [List.take_add_one, List.take_add_one, h, hx, hy, he]
theorem CJ3 {a b : List J1} {i n : Nat} {x y : J1} (hi : i < n) (hx : a[i]? = some x) (hy : b[i]? = some y) (he : x ≠ y) : begins a b n = false := by
  unfold begins
  refine decide_eq_false fun h => he ?_
  have h1 := congrArg (fun l => l[i]?) h.2.2
  rw [List.getElem?_take_of_lt hi, List.getElem?_take_of_lt hi, hx, hy] at h1
  injection h1
theorem Bj1 {x y : J1} : (x.Term != y.Term || !decide (x.Rec = y.Rec)) = !decide (x = y) := by
  cases x; cases y
  rw [Bool.eq_iff_iff]
  simp only [Bool.or_eq_true, bne_iff_ne, ne_eq, Bool.not_eq_true', decide_eq_false_iff_not, J1.mk.injEq, not_and]
  exact ⟨fun h e1 e2 => h.elim (fun k => k e1) (fun k => k e2), fun h => Classical.byCases (fun e1 => .inr (h e1)) .inl⟩
theorem AC6 {α : Type} {p : α → Bool} {l : List α} {i : Nat} {x : α} (h : l[i]? = some x) : ((l.take (i + 1)).filter p).length = ((l.take i).filter p).length + (if p x = true then 1 else 0) := by
  rw [List.take_add_one, h, List.filter_append, G3]
  congr 1
  show ([x].filter p).length = _
  by_cases hp : p x = true
  · rw [List.filter_cons_of_pos hp, if_pos hp]; rfl
  · rw [List.filter_cons_of_neg hp, if_neg hp]; rfl
theorem CJ4 {l : List J1} {e : J1} (h : l[l.length - 1]? = some e) : s8 l = e.Term := by
  unfold s8
  rw [List.getLast?_eq_getElem?, h]
theorem CB8 {l : List J1} (h : l.length = 0) : s8 l = 0 := by
  rw [List.eq_nil_of_length_eq_zero h]; rfl
theorem BI4 {t : Int} {l : List J1} {i : Nat} {p : Int} {e : J1} (hx : l[i]? = some e) : logOk t p (l.drop i) = ((within e.Term p t && goodRec e.Rec) && logOk t e.Term (l.drop (i + 1))) := by
  rw [drop_some hx]; rfl
end Go.M
namespace Go.Proofs.YtcfkbhnpfjjmjaaGreat
open Go Go.AV Go.M
attribute [local irreducible] OpW OpA OpS AWP B9 J2 C9 OpE RetOk H0 I6 Le Ev F1 J8 V9 Int.tmod Int.tdiv IntKind.wrap bandI
theorem Bq8 (a b : L1) (hs : a.size ≤ 1048576) : B9 Tryz.prog 241 [AV.agg a.cs, AV.agg b.cs] (AV.bool (decide (a = b))) := by
 have hl1 := L3 (f := fun s : Str => s.length) (l := a.Reads)
 have hl2 := L3 (f := A9.size) (l := a.Writes)
 have hs9 : sizeL (fun s : Str => s.length) a.Reads + sizeL A9.size a.Writes ≤ 1048576 := hs
 refine B7 Tryz.func241 rfl Tryz.ntmps241 rfl ?_
 refine R3 ?_
 intro b2
 refine R1 ?_
 intro b3
 refine R36 ?_
 refine U1 rfl (fun hc => Ad4 rfl V0 (B1 rfl hc) (B1 rfl hc)) ?_
 refine R20 ?_
 refine A6 (A0 rfl) ?_ ?_
 ·intro h57
  have hne : a ≠ b := fun e => (by subst e; simp at h57)
  rw [decide_eq_false hne]
  refine R5 ?_
  exact D4 rfl (A8 rfl B0)
 intro h57
 have hh := h57
 simp only [Bool.or_eq_false_iff, bne_eq_false_iff_eq, A5] at hh
 refine R7 ?_
 refine E2 [(2, _), (3, _)] _ (fun (i : Nat) => i ≤ a.Reads.length ∧ a.Reads.take i = b.Reads.take i) (fun (i : Nat) => []) (fun (i : Nat) => [(5, AV.int i)]) (fun (i : Nat) => a.Reads.length - i) (0) ?_ (E7 ⟨rfl, rfl, rfl, trivial⟩) ?_
 ·exact ⟨Nat.zero_le _, rfl⟩
 intro i hinv
 refine R9 ?_
 refine A6 (A0 rfl) ?_ ?_
 ·intro h62
  have k62 := of_decide_eq_true h62; try simp only [A5] at k62
  have hlt : i < a.Reads.length := (by simpa using h62)
  obtain ⟨x, hx⟩ := get_some hlt
  obtain ⟨y, hy⟩ := get_some (show i < b.Reads.length by omega)
  refine R8 ?_
  refine C3 rfl rfl (C7 rfl F9 K3 (A0 rfl) (A0 rfl) hx qz3) ?_
  refine R4 ?_
  refine C3 rfl rfl (C7 rfl F9 K3 (A0 rfl) (A0 rfl) hy qz3) ?_
  refine R3 ?_
  refine A6 (A0 rfl) ?_ ?_
  ·intro h75
   have hne : a ≠ b := fun e => (by subst e; rw [hx] at hy; injection hy with hy; simp [hy] at h75)
   rw [decide_eq_false hne]
   refine R5 ?_
   exact D4 rfl (A8 rfl B0)
  intro h75
  refine R6 ?_
  refine E9 i (i + 1) ?_ ?_ (E7 ⟨rfl, rfl, rfl, trivial⟩)
  ·exact ⟨by omega, by rw [List.take_add_one, List.take_add_one, hinv.2, hx, hy]; congr 2; simpa using h75⟩
  omega
 intro h62
 have k62 := of_decide_eq_false h62; try simp only [A5] at k62
 have hge : a.Reads.length ≤ i := (by simpa using h62)
 have hreads : a.Reads = b.Reads := qz175
 refine R7 ?_
 refine E2 [(2, _), (3, _)] _ (fun (j : Nat) => j ≤ a.Writes.length ∧ a.Writes.take j = b.Writes.take j) (fun (j : Nat) => []) (fun (j : Nat) => [(6, AV.int j)]) (fun (j : Nat) => a.Writes.length - j) (0) ?_ (E7 ⟨rfl, rfl, rfl, trivial⟩) ?_
 ·exact ⟨Nat.zero_le _, rfl⟩
 intro j hinv
 refine R9 ?_
 refine A6 (A0 rfl) ?_ ?_
 ·intro h80
  have k80 := of_decide_eq_true h80; try simp only [A5] at k80
  have hlt1 : j < a.Writes.length := (by simpa using h80)
  obtain ⟨u, hu⟩ := get_some hlt1
  obtain ⟨v, hv⟩ := get_some (show j < b.Writes.length by omega)
  refine R8 ?_
  refine C3 rfl rfl (C7 rfl C0 E5 (A0 rfl) (A0 rfl) hu qz3) ?_
  refine R4 ?_
  refine C3 rfl rfl (C7 rfl C0 E5 (A0 rfl) (A0 rfl) hv qz3) ?_
  refine R1 ?_
  refine C3 rfl rfl (Be4 rfl Tryz.underlying47 F2 F2 (A0 rfl) (A0 rfl) (y9 F2 n6 rfl rfl (Au8 M5) (y9 F2 n6 rfl rfl (Au8 M5) (y9 F2 g9 rfl rfl (BB0 V0) BO0)))) ?_
  refine R1 ?_
  refine A6 (A0 rfl) ?_ ?_
  ·intro h93
   have hne : a ≠ b := fun e => (by subst e; rw [hu] at hv; injection hv with hv; rw [BV5] at h93; simp [hv] at h93)
   rw [decide_eq_false hne]
   refine R5 ?_
   exact D4 rfl (A8 rfl B0)
  intro h93
  refine R6 ?_
  refine E9 j (j + 1) ?_ ?_ (E7 ⟨rfl, rfl, rfl, trivial⟩)
  ·exact ⟨by omega, by rw [List.take_add_one, List.take_add_one, hinv.2, hu, hv]; congr 2; rw [BV5] at h93; simpa using h93⟩
  omega
 intro h80
 have k80 := of_decide_eq_false h80; try simp only [A5] at k80
 have hge1 : a.Writes.length ≤ j := (by simpa using h80)
 have hwrites : a.Writes = b.Writes := qz175
 have hyes : a = b := (by cases a; cases b; simp_all)
 rw [decide_eq_true hyes]
 refine R6 ?_
 exact D4 rfl (A8 rfl B0)
theorem Ba3 (a b : List J1) (n : Nat) (hs : sizeL J1.size a ≤ 1048576) (hn : n ≤ 1048576) : B9 Tryz.prog 227 [AV.list 8 (a.map J1.cs), AV.list 8 (b.map J1.cs), AV.int (n : Int)] (AV.bool (begins a b n)) := by
 refine B7 Tryz.func227 rfl Tryz.ntmps227 rfl ?_
 refine R18 ?_
 refine A6 (A0 rfl) ?_ ?_
 ·intro h17
  have he : begins a b n = false := (by unfold begins; refine decide_eq_false fun hc => ?_; simp only [A5, Bool.or_eq_true, decide_eq_true_eq] at h17; omega)
  rw [he]
  refine R5 ?_
  exact D4 rfl (A8 rfl B0)
 intro h17
 have hh := h17
 simp only [A5, Bool.or_eq_false_iff, decide_eq_false_iff_not] at hh
 refine R7 ?_
 refine E2 [(0, _), (1, _), (2, _)] _ (fun (i : Nat) => i ≤ n ∧ a.take i = b.take i) (fun (i : Nat) => []) (fun (i : Nat) => [(7, AV.int i)]) (fun (i : Nat) => n - i) (0) ?_ (E7 ⟨rfl, rfl, rfl, rfl, trivial⟩) ?_
 ·exact ⟨Nat.zero_le _, rfl⟩
 intro i hinv
 refine R7 ?_
 refine A6 (A0 rfl) ?_ ?_
 ·intro h20
  have k20 := of_decide_eq_true h20; try simp only [A5] at k20
  have hlt : i < n := by omega
  obtain ⟨x, hx⟩ := get_some (show i < a.length by omega)
  obtain ⟨y, hy⟩ := get_some (show i < b.length by omega)
  have hxs : x.Rec.size ≤ 1048576 := Nat.le_trans (W4 (f := J1.size) hx) hs
  refine R7 ?_
  refine C3 rfl rfl (C7 rfl M8 T5 (A0 rfl) (A0 rfl) hx qz3) ?_
  refine R4 ?_
  refine C3 rfl rfl (C7 rfl M8 T5 (A0 rfl) (A0 rfl) hy qz3) ?_
  refine R6 ?_
  refine L2 rfl (S2 rfl rfl rfl) (fun hc => C7 rfl M8 T5 (B1 rfl hc) (B1 rfl hc) hx qz5) ?_
  refine R4 ?_
  refine L2 rfl (S2 rfl rfl rfl) (fun hc => C7 rfl M8 T5 (B1 rfl hc) (B1 rfl hc) hy qz5) ?_
  refine R2 ?_
  refine L2 rfl (S2 rfl rfl rfl) (fun hc => B2 rfl Tryz.call241 rfl (Bq8 _ _ Y0) (A1 (B1 rfl hc) (A1 (B1 rfl hc) A7))) ?_
  refine R3 ?_
  refine A6 (A0 rfl) ?_ ?_
  ·intro h47
   have he : begins a b n = false := CJ3 hlt hx hy (by rw [Bj1] at h47; simpa using h47)
   rw [he]
   refine R5 ?_
   exact D4 rfl (A8 rfl B0)
  intro h47
  refine R6 ?_
  refine E9 i (i + 1) ?_ ?_ (E7 ⟨rfl, rfl, rfl, rfl, trivial⟩)
  ·exact ⟨by omega, Bq7 hinv.2 hx hy (by rw [Bj1] at h47; simpa using h47)⟩
  omega
 intro h20
 have k20 := of_decide_eq_false h20; try simp only [A5] at k20
 have hge : i = n := by omega
 subst hge
 have he : begins a b i = true := (by unfold begins; exact decide_eq_true ⟨by omega, by omega, hinv.2⟩)
 rw [he]
 refine R6 ?_
 exact D4 rfl (A8 rfl B0)
theorem Ar8 (l : List J1) (hs : sizeL J1.size l ≤ 1048576) : C9 Tryz.prog 182 [AV.list 8 (l.map J1.cs)] [] (fun _ : Value => True) (fun v => [.arr v 226 8 (l.map J1.cs)]) (fun v => AV.is v) := by
 have hll : l.length ≤ 1048576 := Nat.le_trans L3 hs
 refine C6 Tryz.func182 rfl Tryz.ntmps182 rfl ?_
 refine R2 ?_
 refine A4 rfl (D6 rfl G8) ?_
 refine R3 ?_
 refine N3 rfl rfl rfl rfl M8 T5 ?_
 intro v6
 refine R8 ?_
 refine AWP.le (C1 [0] rfl) ?_
 refine J0 [(0, _), (2, _)] _ (fun (i : Nat) (v : Value) => i ≤ l.length) (fun (i : Nat) (v : Value) => [.arr v 226 8 ((l.take i).map J1.cs)]) (fun (i : Nat) (v : Value) => [(3, AV.is v), (4, AV.int i)]) (fun (i : Nat) (v : Value) => l.length - i) (0) (v6) ?_ (H7 B0 ⟨rfl, rfl, rfl, rfl, trivial⟩) ?_
 ·exact Nat.zero_le _
 intro i v hinv
 refine R8 ?_
 refine A6 (A0 rfl) ?_ ?_
 ·intro h10
  have k10 := of_decide_eq_true h10; try simp only [A5] at k10
  have hlt : i < l.length := AC5
  obtain ⟨x, hx⟩ := get_some hlt
  have hsx : J1.size x ≤ 1048576 := Nat.le_trans (W4 hx) hs
  have hsr : sizeL (fun s : Str => s.length) x.Rec.Reads + sizeL A9.size x.Rec.Writes ≤ 1048576 := hsx
  have hl1 := L3 (f := fun s : Str => s.length) (l := x.Rec.Reads)
  have hl2 := L3 (f := A9.size) (l := x.Rec.Writes)
  refine R7 ?_
  refine A4 rfl (C7 rfl M8 T5 (A0 rfl) (A0 rfl) hx qz3) ?_
  refine R2 ?_
  intro b5
  refine R4 ?_
  refine N3 rfl rfl rfl rfl F9 K3 ?_
  intro v17
  refine R3 ?_
  refine F6 (by' := 16) 0 rfl rfl rfl rfl F9 Tryz.type9 rfl rfl rfl rfl rfl rfl (A0 rfl) (A0 rfl) rfl (by simp only [A5, M6]; omega) ?_
  intro v21_1
  refine R2 ?_
  refine Q5 0 rfl fun one_v21_1 => ?_
  refine O1 1 rfl rfl rfl (A0 rfl) (A0 rfl) (M0 one_v21_1) rfl c9 rfl ?_
  refine R3 ?_
  refine N3 rfl rfl rfl rfl C0 E5 ?_
  intro v24
  refine R3 ?_
  refine F6 (by' := 40) 0 rfl rfl rfl rfl C0 Tryz.type47 rfl rfl rfl rfl rfl rfl (A0 rfl) (A0 rfl) rfl (by simp only [A5, M6]; omega) ?_
  intro v28_2
  refine R2 ?_
  refine Q5 0 rfl fun one_v28_2 => ?_
  refine O1 2 rfl rfl rfl (A0 rfl) (A0 rfl) (M0 one_v28_2) rfl Tryz.sizeOf34 rfl ?_
  refine R1 ?_
  refine AWP.le (AO3 [1, 0] 0 (.box b5 226 x.cs) rfl rfl ⟨rfl, rfl, (D0 H2 (D0 H2 (D0 H2 (D0 H2 (D0 H2 (D0 (J5 (C4 (i := 0) rfl) F4) (D0 (J5 (C4 (i := 1) rfl) F4) (D0 H2 U9))))))))⟩ O0) ?_
  refine R4 ?_
  refine F6 (by' := 96) 1 rfl rfl rfl rfl M8 Tryz.type226 rfl rfl rfl rfl rfl rfl (A0 rfl) (A0 rfl) rfl BM1 ?_
  intro v34_3
  refine R7 ?_
  refine G4 i v (i + 1) (v34_3) ?_ ?_ (Le.trans (C1 [0, 0] rfl) (E0 1 (by (rw [AZ2 hx, List.map_append]; rfl)) ⟨rfl, rfl, rfl, rfl, trivial⟩))
  ·exact qz8
  omega
 intro h10
 have k10 := of_decide_eq_false h10; try simp only [A5] at k10
 have hge : l.length ≤ i := AC5
 rw [List.take_of_length_le hge]
 refine R7 ?_
 exact I0 [0] v (trivial) rfl B0 (E4 rfl (A8 rfl B0))
theorem AS9 (l : List J1) (hs : sizeL J1.size l ≤ 1048576) : B9 Tryz.prog 182 [AV.list 8 (l.map J1.cs)] (AV.list 8 (l.map J1.cs)) :=
  K2 (Ar8 l hs) fun x _ => J5 (C4 (i := 0) rfl) F4
def TGroup.fcs (g : TGroup) (v : Value) : List AV := [AV.is v, AV.int g.Term, AV.int g.Lead]
def TGroup.fow (g : TGroup) (v : Value) : List Own := [.arr v 207 3 (g.Reps.map E6.cs)]
theorem TGroup.fl (g : TGroup) (v : Value) : e6 (TGroup.fow g v) (AV.agg (TGroup.fcs g v)) (AV.agg g.cs) := AW2 (D0 (J5 (C4 (i := 0) rfl) F4) (D0 H2 (D0 H2 U9)))
theorem AK8 (g : TGroup) (hs : g.size ≤ 1048576) : C9 Tryz.prog 166 [AV.agg g.cs] [] (fun _ : Value => True) (fun v => TGroup.fow g v) (fun v => AV.agg (TGroup.fcs g v)) := by
 have hrs : sizeL E6.size g.Reps ≤ 1048576 := hs
 have hll : g.Reps.length ≤ 1048576 := Nat.le_trans L3 hrs
 refine C6 Tryz.func166 rfl Tryz.ntmps166 rfl ?_
 refine R3 ?_
 intro b1
 refine R1 ?_
 intro b2
 refine R3 ?_
 refine N3 rfl rfl rfl rfl F3 I5 ?_
 intro v5
 refine R4 ?_
 refine Q5 0 rfl fun one_v5 => ?_
 refine A4 rfl (W0 (places := #[(0, 1), (1, 1), (2, 1)]) rfl Q2 Tryz.zeroValue178 (fun w => by kernel_rfl) rfl (D7 (A0 rfl) (M0 one_v5) (D7 (A0 rfl) (Q1 _ _) (D7 (A0 rfl) (Q1 _ _) T7))) rfl) ?_
 refine R1 ?_
 intro b3
 refine R8 ?_
 refine AWP.le (C1 [0, 0] rfl) ?_
 refine J0 [(1, _), (2, _), (3, _)] _ (fun (i : Nat) (v : Value) => i ≤ g.Reps.length) (fun (i : Nat) (v : Value) => [.box b3 178 (TGroup.fcs g v), .arr v 207 3 ((g.Reps.take i).map E6.cs)]) (fun (i : Nat) (v : Value) => [(4, AV.int i)]) (fun (i : Nat) (v : Value) => g.Reps.length - i) (0) (v5) ?_ (H7 B0 ⟨rfl, rfl, rfl, rfl, trivial⟩) ?_
 ·exact Nat.zero_le _
 intro i v hinv
 refine R9 ?_
 refine A6 (A0 rfl) ?_ ?_
 ·intro h15
  have k15 := of_decide_eq_true h15; try simp only [A5] at k15
  have hlt : i < g.Reps.length := (by simpa using h15)
  obtain ⟨x, hx⟩ := get_some hlt
  have hsx : sizeL J1.size x.Log ≤ 1048576 := Nat.le_trans (W4 (f := E6.size) hx) hrs
  refine R3 ?_
  refine L8 23 F2 F2 rfl ?_
  refine R5 ?_
  refine C3 rfl rfl (C7 rfl F3 I5 (A0 rfl) (A0 rfl) hx qz3) ?_
  refine R5 ?_
  refine C3 rfl rfl (C7 rfl F3 I5 (A0 rfl) (A0 rfl) hx qz3) ?_
  refine R2 ?_
  refine C3 rfl rfl (B2 rfl Tryz.call182 rfl (AS9 x.Log hsx) (A1 (A0 rfl) A7)) ?_
  refine R3 ?_
  refine C3 rfl rfl (C7 rfl F3 I5 (A0 rfl) (A0 rfl) hx qz3) ?_
  refine R5 ?_
  refine F6 (by' := 40) 1 rfl rfl rfl rfl F3 Tryz.type207 rfl rfl rfl rfl rfl rfl (A0 rfl) (A0 rfl) rfl BM1 ?_
  intro v41_1
  refine R1 ?_
  refine Q5 1 rfl fun one_v41_1 => ?_
  refine O1 0 rfl rfl rfl (A0 rfl) (A0 rfl) (M0 one_v41_1) rfl p7 rfl ?_
  refine R6 ?_
  refine G4 i v (i + 1) (v41_1) ?_ ?_ (Le.trans (C1 [0, 0] rfl) (H7 (by (rw [AZ2 hx, List.map_append]; rfl)) ⟨rfl, rfl, rfl, rfl, trivial⟩))
  ·exact qz8
  omega
 intro h15
 have k15 := of_decide_eq_false h15; try simp only [A5] at k15
 have hge : g.Reps.length ≤ i := (by simpa using h15)
 rw [List.take_of_length_le hge]
 refine R7 ?_
 exact I0 [1] v (trivial) rfl B0 (E4 rfl (H1 (ys := _) 2 rfl rfl J9 C8 rfl))
theorem BP9 (r : E6) (t : Int) (hs : r.size ≤ 1048576) : B9 Tryz.prog 225 [AV.agg r.cs, AV.int t] (AV.bool (goodRep r t)) := by
 have hrs : sizeL J1.size r.Log ≤ 1048576 := hs
 have hll : r.Log.length ≤ 1048576 := Nat.le_trans L3 hrs
 refine B7 Tryz.func225 rfl Tryz.ntmps225 rfl ?_
 refine R3 ?_
 intro b2
 refine R19 ?_
 refine U1 rfl (fun hc => B2 rfl Tryz.call30 rfl (M9 _ _ _) (A1 (B1 rfl hc) (A1 D8 (A1 (B1 rfl hc) A7)))) ?_
 refine R3 ?_
 refine A6 (A0 rfl) ?_ ?_
 ·intro h19
  have he : goodRep r t = false := (by unfold goodRep; simp only [A5, Bool.or_eq_true, decide_eq_true_eq, Bool.not_eq_true'] at h19; rcases h19 with k | k; (rw [decide_eq_false qz8]; rfl); (rw [k]; simp))
  rw [he]
  refine R5 ?_
  exact D4 rfl (A8 rfl B0)
 intro h19
 have hh := h19
 simp only [A5, Bool.or_eq_false_iff, decide_eq_false_iff_not, Bool.not_eq_false'] at hh
 have hg : goodRep r t = logOk t 1 r.Log := (by unfold goodRep; rw [decide_eq_true qz8, hh.2]; rfl)
 refine R7 ?_
 refine J0 [(1, _), (2, _)] _ (fun (i : Nat) (p : Int) => i ≤ r.Log.length ∧ logOk t 1 r.Log = logOk t p (r.Log.drop i)) (fun (i : Nat) (p : Int) => []) (fun (i : Nat) (p : Int) => [(5, AV.int p), (6, AV.int i)]) (fun (i : Nat) (p : Int) => r.Log.length - i) (0) (1) ?_ (E7 ⟨rfl, rfl, rfl, rfl, trivial⟩) ?_
 ·exact ⟨Nat.zero_le _, rfl⟩
 intro i p hinv
 refine R9 ?_
 refine A6 (A0 rfl) ?_ ?_
 ·intro h24
  have k24 := of_decide_eq_true h24; try simp only [A5] at k24
  have hlt : i < r.Log.length := (by simpa using h24)
  obtain ⟨x, hx⟩ := get_some hlt
  have hsx : x.Rec.size ≤ 1048576 := Nat.le_trans (W4 (f := J1.size) hx) hrs
  refine R9 ?_
  refine A4 rfl (C7 rfl M8 T5 (A0 rfl) (A0 rfl) hx qz3) ?_
  refine R4 ?_
  refine A4 rfl (B2 rfl Tryz.call30 rfl (M9 _ _ _) (A1 (A0 rfl) (A1 (A0 rfl) (A1 (A0 rfl) A7)))) ?_
  refine R5 ?_
  refine U1 rfl (fun hc => C7 rfl M8 T5 (B1 rfl hc) (B1 rfl hc) hx qz5) ?_
  refine R2 ?_
  refine U1 rfl (fun hc => B2 rfl Tryz.call207 rfl (AX4 _ Y0) (A1 (B1 rfl hc) A7)) ?_
  refine R3 ?_
  refine A6 (A0 rfl) ?_ ?_
  ·intro h46
   have he : goodRep r t = false := (by rw [hg, hinv.2, BI4 hx]; simp only [Bool.or_eq_true, Bool.not_eq_true'] at h46; rcases h46 with k | k; (rw [k]; rfl); (rw [AM3, k]; simp))
   rw [he]
   refine R5 ?_
   exact D4 rfl (A8 rfl B0)
  intro h46
  refine R5 ?_
  refine A4 rfl (C7 rfl M8 T5 (A0 rfl) (A0 rfl) hx qz3) ?_
  refine R9 ?_
  refine G4 i p (i + 1) (x.Term) ?_ ?_ (E7 ⟨rfl, rfl, rfl, rfl, trivial⟩)
  ·exact ⟨by omega, by rw [hinv.2, BI4 hx]; simp only [Bool.or_eq_false_iff, Bool.not_eq_false'] at h46; rw [h46.1, AM3, h46.2]; rfl⟩
  omega
 intro h24
 have k24 := of_decide_eq_false h24; try simp only [A5] at k24
 have hge : r.Log.length ≤ i := (by simpa using h24)
 rw [hg, hinv.2, List.drop_eq_nil_of_le hge]
 refine R6 ?_
 exact D4 rfl (A8 rfl B0)
theorem Ba4 {g : TGroup} (h : ¬ (((AE7 g.Reps.length && within g.Term 0 200) && within g.Lead (-1) ((g.Reps.length : Int) - 1)) = true)) : goodGroup g = false := by
  rw [← Bool.not_eq_true, p6]
  intro k
  apply h
  have h1 := k.term
  have h3 : within g.Lead (-1) ((g.Reps.length : Int) - 1) = true := by
    unfold within; rw [Bool.and_eq_true, decide_eq_true_eq, decide_eq_true_eq]
    rcases k.lead with e | ⟨a, b, _⟩
    · have := k.many; omega
    · omega
  have h4 : AE7 g.Reps.length = true := by unfold AE7; rw [Bool.or_eq_true, beq_iff_eq, beq_iff_eq]; have := k.many; omega
  have h5 : within g.Term 0 200 = true := by unfold within; rw [Bool.and_eq_true, decide_eq_true_eq, decide_eq_true_eq]; omega
  rw [h3, h4, h5]; rfl
theorem AC7 (g : TGroup) (hs : g.size ≤ 1048576) : B9 Tryz.prog 205 [AV.agg g.cs] (AV.bool (goodGroup g)) := by
 have hrs : sizeL E6.size g.Reps ≤ 1048576 := hs
 have hll : g.Reps.length ≤ 1048576 := Nat.le_trans L3 hrs
 refine B7 Tryz.func205 rfl Tryz.ntmps205 rfl ?_
 refine R3 ?_
 intro b1
 refine R18 ?_
 refine U1 rfl (fun hc => B2 rfl Tryz.call30 rfl (M9 _ _ _) (A1 (B1 rfl hc) (A1 D8 (A1 D8 A7)))) ?_
 refine R9 ?_
 refine U1 rfl (fun hc => B2 rfl Tryz.call30 rfl (M9 _ _ _) (A1 (B1 rfl hc) (A1 D8 (A1 (B1 rfl hc) A7)))) ?_
 refine R3 ?_
 refine A6 (A0 rfl) ?_ ?_
 ·intro h29
  have he : goodGroup g = false := Ba4 (by intro hc; simp only [AE7, Bool.and_eq_true, Bool.or_eq_true, beq_iff_eq] at hc; simp only [A5, Bool.or_eq_true, Bool.and_eq_true, bne_iff_ne, Bool.not_eq_true'] at h29; rcases h29 with (k | k) | k; (omega); (rw [hc.1.2] at k; cases k); (rw [hc.2] at k; cases k))
  rw [he]
  refine R5 ?_
  exact D4 rfl (A8 rfl qz64)
 intro h29
 have hh := h29
 simp only [A5, Bool.or_eq_false_iff, Bool.not_eq_false'] at hh
 have hlead : -1 ≤ g.Lead ∧ g.Lead ≤ (g.Reps.length : Int) - 1 := (by have h9 := hh.2; unfold within at h9; simpa using h9)
 have hm : AE7 g.Reps.length = true := (by have h9 := hh.1.1; unfold AE7; simp only [Bool.and_eq_false_iff, bne_eq_false_iff_eq] at h9; rw [Bool.or_eq_true, beq_iff_eq, beq_iff_eq]; exact h9)
 have hg : goodGroup g = ((g.Lead == -1 || (isRep g g.Lead && (repAt g g.Lead).Up)) && g.Reps.all fun r => goodRep r g.Term) := (by unfold goodGroup; rw [hm, hh.1.2]; rfl)
 refine R7 ?_
 refine E2 [(1, _)] _ (fun (i : Nat) => i ≤ g.Reps.length ∧ (g.Reps.all fun r => goodRep r g.Term) = ((g.Reps.drop i).all fun r => goodRep r g.Term)) (fun (i : Nat) => []) (fun (i : Nat) => [(3, AV.int i)]) (fun (i : Nat) => g.Reps.length - i) (0) ?_ (E7 ⟨rfl, rfl, trivial⟩) ?_
 ·exact ⟨Nat.zero_le _, rfl⟩
 intro i hinv
 refine R9 ?_
 refine A6 (A0 rfl) ?_ ?_
 ·intro h34
  have k34 := of_decide_eq_true h34; try simp only [A5] at k34
  have hlt : i < g.Reps.length := (by simpa using h34)
  obtain ⟨x, hx⟩ := get_some hlt
  have hsx : x.size ≤ 1048576 := Nat.le_trans (W4 hx) hrs
  refine R8 ?_
  refine C3 rfl rfl (C7 rfl F3 I5 (A0 rfl) (A0 rfl) hx qz3) ?_
  refine R3 ?_
  refine C3 rfl rfl (B2 rfl Tryz.call225 rfl (BP9 _ _ Y0) (A1 (A0 rfl) (A1 (A0 rfl) A7))) ?_
  refine R2 ?_
  refine A6 (A0 rfl) ?_ ?_
  ·intro h45
   have he : goodGroup g = false := (by rw [hg, hinv.2, drop_some hx, List.all_cons, show goodRep x g.Term = false by simpa using h45]; simp)
   rw [he]
   refine R5 ?_
   exact D4 rfl (A8 rfl qz64)
  intro h45
  refine R6 ?_
  refine E9 i (i + 1) ?_ ?_ (E7 ⟨rfl, rfl, trivial⟩)
  ·exact ⟨by omega, by rw [hinv.2, drop_some hx, List.all_cons, show goodRep x g.Term = true by simpa using h45]; rfl⟩
  omega
 intro h34
 have k34 := of_decide_eq_false h34; try simp only [A5] at k34
 have hge : g.Reps.length ≤ i := (by simpa using h34)
 have hall : (g.Reps.all fun r => goodRep r g.Term) = true := Af6
 rw [hall, Bool.and_true] at hg
 refine R11 ?_
 refine U1 rfl (fun hc => C7 rfl F3 I5 (B1 rfl hc) (B1 rfl hc) (Z5 (g := g) (r := g.Lead) ⟨by have h9 : ¬ g.Lead < 0 := (by simpa using hc); omega, by omega⟩) (by have h9 : ¬ g.Lead < 0 := (by simpa using hc); omega)) ?_
 refine R6 ?_
 exact D4 rfl (A8 rfl qz64)
end Go.Proofs.YtcfkbhnpfjjmjaaGreat
namespace Go.M
open Go.AV
def n8 (many : Int) : TGroup × Bool := if AE7 many = true then (⟨List.replicate many.toNat ⟨true, [], 0⟩, 0, -1⟩, true) else (zGroup, false)
theorem Bj2 {p : Nat → Bool} {lo n : Nat} (h : lo < n) (hp : p n = true) : findDown p lo n = some n := by
  cases n with
  | zero => omega
  | succ k => unfold findDown; rw [if_neg qz8, if_pos hp]
theorem Bq9 {p : Nat → Bool} {lo n : Nat} (h : lo < n) (hp : ¬ p n = true) : findDown p lo n = findDown p lo (n - 1) := by
  cases n with
  | zero => omega
  | succ k => conv => { lhs; unfold findDown }; rw [if_neg qz8, if_neg hp]; rfl
theorem CB9 (a b c : Int) : AX9 a (if b < c then c else b) = min a (max b c) := by
  unfold AX9; rw [Int.min_def, Int.max_def]; split <;> split <;> split <;> omega
end Go.M
namespace Go.Proofs.YtcfkbhnpfjjmjaaGreat
open Go Go.AV Go.M
attribute [local irreducible] OpW OpA OpS AWP B9 J2 C9 OpE RetOk H0 I6 Le Ev F1 J8 V9 Int.tmod Int.tdiv IntKind.wrap bandI
theorem Aa3 (g : TGroup) (r : Int) (up : Bool) (hs : g.size ≤ 1048576) : B9 Tryz.prog 188 [AV.agg g.cs, AV.int r, AV.bool up] (AV.bool (isUp g r up)) := by
  have hrs : sizeL E6.size g.Reps ≤ 1048576 := hs
  have hll : g.Reps.length ≤ 1048576 := Nat.le_trans L3 hrs
  have hir : within r 0 (((g.Reps.map E6.cs).length : Int) - 1) = isRep g r := by unfold isRep; rw [A5]
  refine B7 Tryz.func188 rfl Tryz.ntmps188 rfl ?_
  refine R3 ?_
  intro b3
  refine R5 ?_
  refine A4 rfl (B2 rfl Tryz.call205 rfl (AC7 _ Y0) (A1 (A0 rfl) A7)) ?_
  refine R6 ?_
  refine L4 rfl (fun hc => B2 rfl Tryz.call30 rfl (M9 _ _ _) (A1 (B1 rfl hc) (A1 D8 (A1 (B1 rfl hc) A7)))) ?_
  refine R5 ?_
  refine L4 rfl (fun hc => C7 rfl F3 I5 (B1 rfl hc) (B1 rfl hc) (Z5 (AR8.1 (hir ▸ Bc9 hc))) (by have h9 := (AR8.1 (hir ▸ Bc9 hc)).1; omega)) ?_
  refine R3 ?_
  refine L4 rfl (fun hc => w_beql rfl V0 (B1 rfl hc) (B1 rfl hc)) ?_
  refine R4 ?_
  exact D4 rfl (A8 rfl (by exact congrArg AV.bool (by rw [hir]; rfl)))
theorem Bj3 (g : TGroup) (r : Int) (hs : g.size ≤ 1048576) : C9 Tryz.prog 192 [AV.agg g.cs, AV.int r] [] (fun _ : Value => True) (fun v => TGroup.fow (crashR g r).1 v) (fun v => AV.tup [AV.agg (TGroup.fcs (crashR g r).1 v), AV.bool (crashR g r).2]) := by
 refine C6 Tryz.func192 rfl Tryz.ntmps192 rfl ?_
 refine R3 ?_
 intro b2
 refine R1 ?_
 intro b4
 refine R7 ?_
 refine A4 rfl (B2 rfl Tryz.call188 rfl (Aa3 _ _ _ Y0) (A1 (A0 rfl) (A1 (A0 rfl) (A1 t0 A7)))) ?_
 refine R2 ?_
 refine A6 (A0 rfl) ?_ ?_
 ·intro h10
  have he : crashR g r = (zGroup, false) := (by unfold crashR; rw [if_neg AC5])
  rw [he]
  refine R7 ?_
  refine a9 207 3 ?_
  exact I0 [0] (Value.slice none 0 0) (trivial) rfl qz90 (U3 rfl D3 (B8 (H1 (ys := _) 1 rfl rfl J9 C8 rfl) (B8 (A8 rfl B0) G6)))
 intro h10
 have hu : isUp g r true = true := AC5
 obtain ⟨gg, hr, hup⟩ := AD8.1 hu
 have hx := Z5 hr
 have he : crashR g r = (⟨g.Reps.set r.toNat ⟨false, (repAt g r).Log, (repAt g r).Sure⟩, g.Term, if g.Lead = r then -1 else g.Lead⟩, true) := if_pos hu
 rw [he]
 refine R4 ?_
 refine F0 [] rfl rfl rfl rfl Tryz.call166 rfl (AK8 g hs) (A1 (A0 rfl) A7) rfl ?_
 intro x13 ok13
 refine R1 ?_
 intro b6
 refine R7 ?_
 refine A4 rfl (E8 1 rfl F3 I5 (A0 rfl) rfl (A0 rfl) qz8 f7) ?_
 refine A4 rfl (I9 1 rfl Y7 rfl N9 (A0 rfl) rfl rfl qz6) ?_
 refine T1 1 rfl rfl rfl (A0 rfl) t0 (u4 _) rfl N9 qz6 rfl ?_
 refine R9 ?_
 refine A6 (A0 rfl) ?_ ?_
 ·intro h22
  have k22 := D1 h22; try simp only [A5] at k22
  rw [if_pos k22]
  refine R11 ?_
  exact I0 [1] x13 (trivial) rfl qz90 (U3 rfl D3 (B8 (H1 (ys := _) 2 rfl rfl J9 C8 rfl) (B8 (A8 rfl B0) G6)))
 intro h22
 have k22 := D5 h22; try simp only [A5] at k22
 rw [if_neg k22]
 refine R8 ?_
 exact I0 [1] x13 (trivial) rfl qz90 (U3 rfl D3 (B8 (H1 (ys := _) 2 rfl rfl J9 C8 rfl) (B8 (A8 rfl B0) G6)))
theorem Ba5 (g : TGroup) (r : Int) (hs : g.size ≤ 1048576) : B9 Tryz.prog 192 [AV.agg g.cs, AV.int r] (AV.tup [AV.agg (crashR g r).1.cs, AV.bool (crashR g r).2]) :=
  K2 (Bj3 g r hs) fun v _ => u9 (D0 (TGroup.fl _ v) (D0 H2 U9))
theorem Bj4 (g : TGroup) (r : Int) (hs : g.size ≤ 1048576) : C9 Tryz.prog 193 [AV.agg g.cs, AV.int r] [] (fun _ : Value => True) (fun v => TGroup.fow (startR g r).1 v) (fun v => AV.tup [AV.agg (TGroup.fcs (startR g r).1 v), AV.bool (startR g r).2]) := by
 refine C6 Tryz.func193 rfl Tryz.ntmps193 rfl ?_
 refine R3 ?_
 intro b2
 refine R1 ?_
 intro b4
 refine R7 ?_
 refine A4 rfl (B2 rfl Tryz.call188 rfl (Aa3 _ _ _ Y0) (A1 (A0 rfl) (A1 (A0 rfl) (A1 t0 A7)))) ?_
 refine R2 ?_
 refine A6 (A0 rfl) ?_ ?_
 ·intro h10
  have he : startR g r = (zGroup, false) := (by unfold startR; rw [if_neg AC5])
  rw [he]
  refine R7 ?_
  refine a9 207 3 ?_
  exact I0 [0] (Value.slice none 0 0) (trivial) rfl qz90 (U3 rfl D3 (B8 (H1 (ys := _) 1 rfl rfl J9 C8 rfl) (B8 (A8 rfl B0) G6)))
 intro h10
 have hu : isUp g r false = true := AC5
 obtain ⟨gg, hr, hup⟩ := AD8.1 hu
 have hx := Z5 hr
 have he : startR g r = (⟨g.Reps.set r.toNat ⟨true, (repAt g r).Log, (repAt g r).Sure⟩, g.Term, g.Lead⟩, true) := if_pos hu
 rw [he]
 refine R4 ?_
 refine F0 [] rfl rfl rfl rfl Tryz.call166 rfl (AK8 g hs) (A1 (A0 rfl) A7) rfl ?_
 intro x13 ok13
 refine R1 ?_
 intro b6
 refine R7 ?_
 refine A4 rfl (E8 1 rfl F3 I5 (A0 rfl) rfl (A0 rfl) qz8 f7) ?_
 refine A4 rfl (I9 1 rfl Y7 rfl N9 (A0 rfl) rfl rfl qz6) ?_
 refine T1 1 rfl rfl rfl (A0 rfl) t0 (u4 _) rfl N9 qz6 rfl ?_
 refine R8 ?_
 exact I0 [1] x13 (trivial) rfl qz90 (U3 rfl D3 (B8 (H1 (ys := _) 2 rfl rfl J9 C8 rfl) (B8 (A8 rfl B0) G6)))
theorem Ba6 (g : TGroup) (r : Int) (hs : g.size ≤ 1048576) : B9 Tryz.prog 193 [AV.agg g.cs, AV.int r] (AV.tup [AV.agg (startR g r).1.cs, AV.bool (startR g r).2]) :=
  K2 (Bj4 g r hs) fun v _ => u9 (D0 (TGroup.fl _ v) (D0 H2 U9))
theorem AQ7 (l : List J1) : B9 Tryz.prog 206 [AV.list 8 (l.map J1.cs)] (AV.int (s8 l)) := by
 refine B7 Tryz.func206 rfl Tryz.ntmps206 rfl ?_
 refine S1 (t := 0) rfl fun hl => ?_
 try simp only [A5] at hl
 refine R11 ?_
 refine A6 (A0 rfl) ?_ ?_
 ·intro h5
  have k5 := D1 h5; try simp only [A5] at k5
  rw [CB8 (show l.length = 0 by omega)]
  refine R5 ?_
  exact D4 rfl (A8 rfl B0)
 intro h5
 have k5 := D5 h5; try simp only [A5] at k5
 obtain ⟨e, hx⟩ := get_some (show l.length - 1 < l.length by omega)
 have hx2 : l[(((l.map J1.cs).length : Int) - 1).toNat]? = some e := (by rw [A5, show ((l.length : Int) - 1).toNat = l.length - 1 by omega]; exact hx)
 rw [CJ4 hx]
 refine R7 ?_
 refine A4 rfl (C7 rfl M8 T5 (A0 rfl) (A0 rfl) hx2 (by rw [A5]; omega)) ?_
 refine R5 ?_
 exact D4 rfl (A8 rfl B0)
theorem Bj5 (a b : List J1) : B9 Tryz.prog 189 [AV.list 8 (a.map J1.cs), AV.list 8 (b.map J1.cs)] (AV.bool (AP7 a b)) := by
 refine B7 Tryz.func189 rfl Tryz.ntmps189 rfl ?_
 refine R8 ?_
 refine A4 rfl (B2 rfl Tryz.call206 rfl (AQ7 _) (A1 (A0 rfl) A7)) ?_
 refine R1 ?_
 refine A4 rfl (B2 rfl Tryz.call206 rfl (AQ7 _) (A1 (A0 rfl) A7)) ?_
 refine R2 ?_
 refine A6 (A0 rfl) ?_ ?_
 ·intro h9
  have k9 := w8 h9; try simp only [A5] at k9
  have he : AP7 a b = decide (s8 b < s8 a) := (by unfold AP7; rw [beq_eq_false_iff_ne.2 k9]; simp)
  rw [he]
  refine R3 ?_
  refine A4 rfl (B2 rfl Tryz.call206 rfl (AQ7 _) (A1 (A0 rfl) A7)) ?_
  refine R1 ?_
  refine A4 rfl (B2 rfl Tryz.call206 rfl (AQ7 _) (A1 (A0 rfl) A7)) ?_
  refine R4 ?_
  exact D4 rfl (A8 rfl (by first | rfl | (rw [A5, A5])))
 intro h9
 have k9 := c3 h9; try simp only [A5] at k9
 have he : AP7 a b = decide ((b.length : Int) < (a.length : Int)) := (by unfold AP7; rw [k9]; simp)
 rw [he]
 refine R11 ?_
 exact D4 rfl (A8 rfl (by first | rfl | (rw [A5, A5])))
theorem Bj6 (g : TGroup) (r : Int) (hs : g.size ≤ 1048576) : C9 Tryz.prog 177 [AV.agg g.cs, AV.int r] [] (fun _ : Value => True) (fun v => TGroup.fow (electR g r).1 v) (fun v => AV.tup [AV.agg (TGroup.fcs (electR g r).1 v), AV.bool (electR g r).2]) := by
 refine C6 Tryz.func177 rfl Tryz.ntmps177 rfl ?_
 refine R3 ?_
 intro b2
 refine R1 ?_
 intro b4
 refine R7 ?_
 refine A4 rfl (B2 rfl Tryz.call188 rfl (Aa3 _ _ _ Y0) (A1 (A0 rfl) (A1 (A0 rfl) (A1 t0 A7)))) ?_
 refine R7 ?_
 refine A6 (A0 rfl) ?_ ?_
 ·intro h17
  have he : electR g r = (zGroup, false) := (by unfold electR; rw [if_neg (by rintro ⟨a, b⟩; simp only [Bool.and_eq_true, Bool.not_eq_true'] at a; rw [a.1, a.2] at h17; cases h17)])
  rw [he]
  refine R7 ?_
  refine a9 207 3 ?_
  exact I0 [0] (Value.slice none 0 0) (trivial) rfl B0 (U3 rfl D3 (B8 (H1 (ys := _) 1 rfl rfl J9 C8 rfl) (B8 (A8 rfl B0) G6)))
 intro h17
 have hh := h17
 simp only [Bool.or_eq_false_iff, Bool.not_eq_false'] at hh
 obtain ⟨hu, ht⟩ := hh
 obtain ⟨gg, hr, hup⟩ := AD8.1 hu
 have hxr := Z5 hr
 have hll : g.Reps.length ≤ 5 := (by have h9 := gg.many; omega)
 have htm := gg.term
 refine R11 ?_
 refine J0 [(1, _), (2, _), (4, _), (5, _)] _ (fun (i : Nat) (m : Nat) => i ≤ g.Reps.length ∧ m ≤ i ∧ m = ((g.Reps.take i).filter fun x => x.Up && !AP7 x.Log (repAt g r).Log).length) (fun (i : Nat) (m : Nat) => []) (fun (i : Nat) (m : Nat) => [(6, AV.int m), (7, AV.int i)]) (fun (i : Nat) (m : Nat) => g.Reps.length - i) (0) (0) ?_ (E7 ⟨rfl, rfl, rfl, rfl, rfl, rfl, trivial⟩) ?_
 ·exact ⟨Nat.zero_le _, Nat.le_refl _, rfl⟩
 intro i m hinv
 refine R9 ?_
 refine A6 (A0 rfl) ?_ ?_
 ·intro h23
  have k23 := of_decide_eq_true h23; try simp only [A5] at k23
  have hlt : i < g.Reps.length := At6
  obtain ⟨x, hx⟩ := get_some hlt
  refine R8 ?_
  refine C3 rfl rfl (C7 rfl F3 I5 (A0 rfl) (A0 rfl) hx qz3) ?_
  refine R6 ?_
  refine L2 rfl (O5 rfl rfl rfl) (fun hc => C7 rfl F3 I5 (B1 rfl hc) (B1 rfl hc) hx qz5) ?_
  refine R5 ?_
  refine L2 rfl (O5 rfl rfl rfl) (fun hc => C7 rfl F3 I5 (B1 rfl hc) (B1 rfl hc) hxr qz8) ?_
  refine R2 ?_
  refine L2 rfl (O5 rfl rfl rfl) (fun hc => B2 rfl Tryz.call189 rfl (Bj5 _ _) (A1 (B1 rfl hc) (A1 (B1 rfl hc) A7))) ?_
  refine R3 ?_
  refine A6 (A0 rfl) ?_ ?_
  ·intro h47
   refine R10 ?_
   refine G4 i m (i + 1) (m + 1) ?_ ?_ (E7 ⟨rfl, rfl, rfl, rfl, rfl, rfl, trivial⟩)
   ·exact ⟨by omega, by omega, by rw [AC6 hx, if_pos h47, hinv.2.2]⟩
   omega
  intro h47
  refine R6 ?_
  refine G4 i m (i + 1) (m) ?_ ?_ (E7 ⟨rfl, rfl, rfl, rfl, rfl, rfl, trivial⟩)
  ·exact ⟨by omega, by omega, by rw [AC6 hx, if_neg (by rw [h47]; decide), Nat.add_zero]; exact hinv.2.2⟩
  omega
 intro h23
 have k23 := of_decide_eq_false h23; try simp only [A5] at k23
 have hge : g.Reps.length ≤ i := At6
 have hm := hinv.2.2
 rw [List.take_of_length_le hge] at hm
 refine R5 ?_
 refine A4 rfl (AR3 rfl D8 (A0 rfl) qz3) ?_
 refine R5 ?_
 refine A6 (A0 rfl) ?_ ?_
 ·intro h55
  have k55 := of_decide_eq_true h55; try simp only [A5] at k55
  have he : electR g r = (zGroup, false) := (by unfold electR; rw [if_neg (by rintro ⟨a, b⟩; unfold At1 at b; have h9 := of_decide_eq_true b; rw [← hm] at h9; omega)])
  rw [he]
  refine R7 ?_
  refine a9 207 3 ?_
  exact I0 [0] (Value.slice none 0 0) (trivial) rfl B0 (U3 rfl D3 (B8 (H1 (ys := _) 1 rfl rfl J9 C8 rfl) (B8 (A8 rfl B0) G6)))
 intro h55
 have k55 := of_decide_eq_false h55; try simp only [A5] at k55
 have he : electR g r = (⟨g.Reps, g.Term + 1, r⟩, true) := (by unfold electR; rw [if_pos ⟨by rw [hu, ht]; rfl, by unfold At1; rw [← hm]; exact decide_eq_true qz8⟩])
 rw [he]
 refine R4 ?_
 refine F0 [] rfl rfl rfl rfl Tryz.call166 rfl (AK8 g hs) (A1 (A0 rfl) A7) rfl ?_
 intro x58 ok58
 refine R1 ?_
 intro b8
 refine R23 ?_
 exact I0 [1] x58 (trivial) rfl B0 (U3 rfl D3 (B8 (H1 (ys := _) 2 rfl rfl J9 C8 rfl) (B8 (A8 rfl B0) G6)))
theorem Ba7 (g : TGroup) (r : Int) (hs : g.size ≤ 1048576) : B9 Tryz.prog 177 [AV.agg g.cs, AV.int r] (AV.tup [AV.agg (electR g r).1.cs, AV.bool (electR g r).2]) :=
  K2 (Bj6 g r hs) fun v _ => u9 (D0 (TGroup.fl _ v) (D0 H2 U9))
theorem CC0 (g : TGroup) (r : Int) (hs : g.size ≤ 1048576) : C9 Tryz.prog 194 [AV.agg g.cs, AV.int r] [] (fun _ : Value => True) (fun v => TGroup.fow (j0 g r).1 v) (fun v => AV.tup [AV.agg (TGroup.fcs (j0 g r).1 v), AV.bool (j0 g r).2]) := by
 refine C6 Tryz.func194 rfl Tryz.ntmps194 rfl ?_
 refine R3 ?_
 intro b2
 refine R1 ?_
 intro b4
 refine R7 ?_
 refine A4 rfl (B2 rfl Tryz.call188 rfl (Aa3 _ _ _ Y0) (A1 (A0 rfl) (A1 (A0 rfl) (A1 t0 A7)))) ?_
 refine R13 ?_
 refine A6 (A0 rfl) ?_ ?_
 ·intro h22
  have he : j0 g r = (zGroup, false) := (by unfold j0; rw [if_neg (by rintro ⟨a, b⟩; simp only [Bool.and_eq_true, decide_eq_true_eq] at a; rw [a.1, decide_eq_false (show ¬ g.Lead < 0 by omega), beq_eq_false_iff_ne.2 b] at h22; cases h22)])
  rw [he]
  refine R7 ?_
  refine a9 207 3 ?_
  exact I0 [0] (Value.slice none 0 0) (trivial) rfl qz171 (U3 rfl D3 (B8 (H1 (ys := _) 1 rfl rfl J9 C8 rfl) (B8 (A8 rfl B0) G6)))
 intro h22
 have hh := h22
 simp only [Bool.or_eq_false_iff, Bool.not_eq_false', decide_eq_false_iff_not, beq_eq_false_iff_ne] at hh
 obtain ⟨⟨hu, hl0⟩, hne⟩ := hh
 obtain ⟨gg, hr, hup⟩ := AD8.1 hu
 have hld : 0 ≤ g.Lead ∧ g.Lead < g.Reps.length := (by rcases gg.lead with e | ⟨a, b, _⟩; omega; exact ⟨a, b⟩)
 have hxr := Z5 hr
 have hxl := Z5 hld
 have hls : sizeL J1.size (repAt g g.Lead).Log ≤ 1048576 := Nat.le_trans (W4 (f := E6.size) hxl) hs
 have he : j0 g r = (setRep g r ⟨true, (repAt g g.Lead).Log, min ((repAt g g.Lead).Log.length : Int) (max (repAt g r).Sure (repAt g g.Lead).Sure)⟩, true) := (by unfold j0; rw [if_pos ⟨by rw [hu, decide_eq_true qz8]; rfl, hne⟩])
 rw [he, ← CB9]
 refine R4 ?_
 refine F0 [] rfl rfl rfl rfl Tryz.call166 rfl (AK8 g hs) (A1 (A0 rfl) A7) rfl ?_
 intro x25 ok25
 refine R1 ?_
 intro b6
 refine R8 ?_
 refine A4 rfl (C7 rfl F3 I5 (A0 rfl) (A0 rfl) hxl qz8) ?_
 refine R2 ?_
 refine A4 rfl (B2 rfl Tryz.call182 rfl (AS9 _ hls) (A1 (A0 rfl) A7)) ?_
 refine R3 ?_
 refine L8 23 F2 F2 rfl ?_
 refine R9 ?_
 refine C3 rfl rfl (C7 rfl F3 I5 (A0 rfl) (A0 rfl) hxr qz8) ?_
 refine R6 ?_
 refine C3 rfl rfl (C7 rfl F3 I5 (A0 rfl) (A0 rfl) hxl qz8) ?_
 refine R2 ?_
 refine C3 rfl rfl (B2 rfl Tryz.call23 rfl (Ar5 _ _) (A1 (A0 rfl) (A1 (A0 rfl) A7))) ?_
 refine C3 rfl rfl (B2 rfl Tryz.call208 rfl (Bi8 _ _) (A1 (A0 rfl) (A1 (A0 rfl) A7))) ?_
 refine R1 ?_
 refine C3 rfl rfl (E8 1 rfl F3 I5 (A0 rfl) rfl (A0 rfl) qz8 f7) ?_
 refine R1 ?_
 refine S9 1 rfl rfl rfl (A0 rfl) (A0 rfl) (V2 _) rfl I5 rfl f6 ?_
 refine R8 ?_
 exact I0 [1] x25 (trivial) rfl qz171 (U3 rfl D3 (B8 (H1 (ys := _) 2 rfl rfl J9 C8 rfl) (B8 (A8 rfl B0) G6)))
theorem Br0 (g : TGroup) (r : Int) (hs : g.size ≤ 1048576) : B9 Tryz.prog 194 [AV.agg g.cs, AV.int r] (AV.tup [AV.agg (j0 g r).1.cs, AV.bool (j0 g r).2]) :=
  K2 (CC0 g r hs) fun v _ => u9 (D0 (TGroup.fl _ v) (D0 H2 U9))
theorem Br1 (g : TGroup) (l : List J1) (n : Nat) (hs : g.size ≤ 1048576) (hn : n ≤ 1048576) : B9 Tryz.prog 209 [AV.agg g.cs, AV.list 8 (l.map J1.cs), AV.int (n : Int)] (AV.int ((g.Reps.filter fun x => begins x.Log l n).length : Nat)) := by
 have hll : g.Reps.length ≤ 1048576 := Nat.le_trans (L3 (f := E6.size)) hs
 refine B7 Tryz.func209 rfl Tryz.ntmps209 rfl ?_
 refine R3 ?_
 intro b3
 refine R12 ?_
 refine J0 [(1, _), (2, _), (3, _), (6, _)] _ (fun (i : Nat) (m : Nat) => i ≤ g.Reps.length ∧ m ≤ i ∧ m = ((g.Reps.take i).filter fun x => begins x.Log l n).length) (fun (i : Nat) (m : Nat) => []) (fun (i : Nat) (m : Nat) => [(7, AV.int m), (8, AV.int i)]) (fun (i : Nat) (m : Nat) => g.Reps.length - i) (0) (0) ?_ (E7 ⟨rfl, rfl, rfl, rfl, rfl, rfl, trivial⟩) ?_
 ·exact ⟨Nat.zero_le _, Nat.le_refl _, rfl⟩
 intro i m hinv
 refine R9 ?_
 refine A6 (A0 rfl) ?_ ?_
 ·intro h13
  have k13 := of_decide_eq_true h13; try simp only [A5] at k13
  have hlt : i < g.Reps.length := (by simpa using h13)
  obtain ⟨x, hx⟩ := get_some hlt
  refine R8 ?_
  refine A4 rfl (C7 rfl F3 I5 (A0 rfl) (A0 rfl) hx qz3) ?_
  refine R4 ?_
  refine A4 rfl (B2 rfl Tryz.call227 rfl (Ba3 x.Log l n (Nat.le_trans (W4 (f := E6.size) hx) hs) hn) (A1 (A0 rfl) (A1 (A0 rfl) (A1 (A0 rfl) A7)))) ?_
  refine R1 ?_
  refine A6 (A0 rfl) ?_ ?_
  ·intro h24
   refine R10 ?_
   refine G4 i m (i + 1) (m + 1) ?_ ?_ (E7 ⟨rfl, rfl, rfl, rfl, rfl, rfl, trivial⟩)
   ·exact ⟨by omega, by omega, by rw [AC6 hx, if_pos h24, hinv.2.2]⟩
   omega
  intro h24
  refine R6 ?_
  refine G4 i m (i + 1) (m) ?_ ?_ (E7 ⟨rfl, rfl, rfl, rfl, rfl, rfl, trivial⟩)
  ·exact ⟨by omega, by omega, by rw [AC6 hx, if_neg (by rw [h24]; decide), Nat.add_zero]; exact hinv.2.2⟩
  omega
 intro h13
 have k13 := of_decide_eq_false h13; try simp only [A5] at k13
 have hge : g.Reps.length ≤ i := (by simpa using h13)
 have hm := hinv.2.2
 rw [List.take_of_length_le hge] at hm
 rw [← hm]
 refine R7 ?_
 exact D4 rfl (A8 rfl B0)
theorem Br2 (g : TGroup) (hs : g.size ≤ 1048576) : C9 Tryz.prog 195 [AV.agg g.cs] [] (fun _ : Value => True) (fun v => TGroup.fow (n7 g).1 v) (fun v => AV.tup [AV.agg (TGroup.fcs (n7 g).1 v), AV.bool (n7 g).2]) := by
 refine C6 Tryz.func195 rfl Tryz.ntmps195 rfl ?_
 refine R3 ?_
 intro b1
 refine R1 ?_
 intro b2
 refine R6 ?_
 refine A4 rfl (B2 rfl Tryz.call205 rfl (AC7 _ Y0) (A1 (A0 rfl) A7)) ?_
 refine R7 ?_
 refine A6 (A0 rfl) ?_ ?_
 ·intro h14
  have he : n7 g = (zGroup, false) := (by unfold n7; rw [if_neg (by unfold hasLead; intro a; simp only [Bool.and_eq_true, decide_eq_true_eq] at a; rw [a.1, decide_eq_false (show ¬ g.Lead < 0 by omega)] at h14; cases h14)])
  rw [he]
  refine R7 ?_
  refine a9 207 3 ?_
  exact I0 [0] (Value.slice none 0 0) (trivial) rfl qz137 (U3 rfl D3 (B8 (H1 (ys := _) 1 rfl rfl J9 C8 rfl) (B8 (A8 rfl B0) G6)))
 intro h14
 have hh := h14
 simp only [Bool.or_eq_false_iff, Bool.not_eq_false', decide_eq_false_iff_not] at hh
 have hlead : hasLead g = true := (by unfold hasLead; rw [hh.1, decide_eq_true qz8]; rfl)
 obtain ⟨gg, l0, l1, hup⟩ := AH5.1 hlead
 have hxl := Z5 ⟨l0, l1⟩
 have hgr := gg.reps _ (d9 ⟨l0, l1⟩)
 obtain ⟨L, hL⟩ : ∃ L, repAt g g.Lead = L := ⟨_, rfl⟩
 rw [hL] at hxl hgr
 have hsr := hgr.sure
 have hl6 := hgr.len
 have hm5 : g.Reps.length ≤ 5 := (by have h9 := gg.many; omega)
 refine R4 ?_
 refine F0 [] rfl rfl rfl rfl Tryz.call166 rfl (AK8 g hs) (A1 (A0 rfl) A7) rfl ?_
 intro x17 ok17
 refine R1 ?_
 intro b4
 refine R8 ?_
 refine A4 rfl (C7 rfl F3 I5 (A0 rfl) (A0 rfl) hxl qz8) ?_
 refine R2 ?_
 intro b5
 refine R8 ?_
 try rw [show AV.ik IntKind.i64 ((n : Int) - 1) = AV.int ((n - 1 : Nat) : Int) from congrArg AV.int (show (n : Int) - 1 = ((n - 1 : Nat) : Int) by omega)]
 refine R3 ?_
 rw [show (List.map J1.cs L.Log).length = L.Log.length from A5 _]
 refine E2 [(1, _), (2, _), (4, _), (5, _)] _ (fun (n : Nat) => n ≤ L.Log.length ∧ findDown (AN6 g) L.Sure.toNat L.Log.length = findDown (AN6 g) L.Sure.toNat n) (fun (n : Nat) => []) (fun (n : Nat) => [(6, AV.int n)]) (fun (n : Nat) => n) (L.Log.length) ?_ (E7 ⟨rfl, rfl, rfl, rfl, rfl, trivial⟩) ?_
 ·exact ⟨Nat.le_refl _, rfl⟩
 intro n hinv
 refine R8 ?_
 refine A6 (A0 rfl) ?_ ?_
 ·intro h30
  have k30 := of_decide_eq_true h30; try simp only [A5] at k30
  have hgt : L.Sure.toNat < n := by omega
  obtain ⟨x, hx⟩ := get_some (show n - 1 < L.Log.length by omega)
  have hx2 : L.Log[((n : Int) - 1).toNat]? = some x := (by rw [show ((n : Int) - 1).toNat = n - 1 by omega]; exact hx)
  have hadv : AN6 g n = ((x.Term == g.Term) && decide ((g.Reps.length : Int) < 2 * ((g.Reps.filter fun x => begins x.Log L.Log n).length : Int))) := (by unfold AN6 At1; rw [hL, hx, Option.map_some]; congr 1; rw [Bool.eq_iff_iff, decide_eq_true_eq, beq_iff_eq]; exact ⟨fun e => by injection e, fun e => by rw [e]⟩)
  have hcnt := List.length_filter_le (fun x => begins x.Log L.Log n) g.Reps
  refine R9 ?_
  refine C3 rfl rfl (C7 rfl M8 T5 (A0 rfl) (A0 rfl) hx2 qz8) ?_
  refine R10 ?_
  refine L2 rfl (O5 rfl rfl rfl) (fun hc => B2 rfl Tryz.call209 rfl (Br1 _ _ _ Y0 Y0) (A1 (B1 rfl hc) (A1 (B1 rfl hc) (A1 (B1 rfl hc) A7)))) ?_
  refine L2 rfl (O5 rfl rfl rfl) (fun hc => AR3 rfl D8 (B1 rfl hc) qz5) ?_
  refine R6 ?_
  refine A6 (A0 rfl) ?_ ?_
  ·intro h54
   have hp : AN6 g n = true := (by rw [hadv]; simpa using h54)
   have hfin : findDown (AN6 g) L.Sure.toNat L.Log.length = some n := (by rw [hinv.2]; exact Bj2 hgt hp)
   have he : n7 g = (setRep g g.Lead ⟨L.Up, L.Log, (n : Int)⟩, true) := (by unfold n7; rw [if_pos hlead, hL, hfin])
   rw [he]
   refine R7 ?_
   refine A4 rfl (E8 2 rfl F3 I5 (A0 rfl) rfl (A0 rfl) qz8 f7) ?_
   refine A4 rfl (I9 2 rfl Y7 rfl B6 (A0 rfl) rfl rfl qz88) ?_
   refine T1 2 rfl rfl rfl (A0 rfl) (A0 rfl) (Q1 _ _) rfl B6 qz88 rfl ?_
   refine R8 ?_
   exact I0 [2] x17 (trivial) rfl qz137 (U3 rfl D3 (B8 (H1 (ys := _) 3 rfl rfl J9 C8 rfl) (B8 (A8 rfl B0) G6)))
  intro h54
  have hp : ¬ AN6 g n = true := (by rw [hadv]; simpa using h54)
  have hdown : findDown (AN6 g) L.Sure.toNat L.Log.length = findDown (AN6 g) L.Sure.toNat (n - 1) := (by rw [hinv.2]; exact Bq9 hgt hp)
  refine R4 ?_
  try rw [show AV.ik IntKind.i64 ((n : Int) - 1) = AV.int ((n - 1 : Nat) : Int) from congrArg AV.int (show (n : Int) - 1 = ((n - 1 : Nat) : Int) by omega)]
  refine R2 ?_
  refine E9 n (n - 1) ?_ ?_ (E7 ⟨rfl, rfl, rfl, rfl, rfl, trivial⟩)
  ·exact ⟨by omega, hdown⟩
  omega
 intro h30
 have k30 := of_decide_eq_false h30; try simp only [A5] at k30
 have hfin : findDown (AN6 g) L.Sure.toNat L.Log.length = none := (by rw [hinv.2]; cases n with | zero => rfl | succ k => (unfold findDown; rw [if_pos qz8]))
 have he : n7 g = (g, true) := (by unfold n7; rw [if_pos hlead, hL, hfin])
 rw [he]
 refine R8 ?_
 exact I0 [2] x17 (trivial) rfl qz137 (U3 rfl D3 (B8 (H1 (ys := _) 3 rfl rfl J9 C8 rfl) (B8 (A8 rfl B0) G6)))
theorem Bj7 (g : TGroup) (hs : g.size ≤ 1048576) : B9 Tryz.prog 195 [AV.agg g.cs] (AV.tup [AV.agg (n7 g).1.cs, AV.bool (n7 g).2]) :=
  K2 (Br2 g hs) fun v _ => u9 (D0 (TGroup.fl _ v) (D0 H2 U9))
theorem Bj8 (many : Int) : C9 Tryz.prog 164 [AV.int many] [] (fun _ : Value => True) (fun v => TGroup.fow (n8 many).1 v) (fun v => AV.tup [AV.agg (TGroup.fcs (n8 many).1 v), AV.bool (n8 many).2]) := by
 refine C6 Tryz.func164 rfl Tryz.ntmps164 rfl ?_
 refine R3 ?_
 intro b2
 refine R12 ?_
 refine A6 (A0 rfl) ?_ ?_
 ·intro h11
  have he : n8 many = (zGroup, false) := (by unfold n8 AE7; rw [if_neg (by simp only [Bool.and_eq_true, bne_iff_ne] at h11; simp [h11.1, h11.2])])
  rw [he]
  refine R7 ?_
  refine a9 207 3 ?_
  exact I0 [0] (Value.slice none 0 0) (trivial) rfl B0 (U3 rfl D3 (B8 (H1 (ys := _) 1 rfl rfl J9 C8 rfl) (B8 (A8 rfl B0) G6)))
 intro h11
 have hm : many = 3 ∨ many = 5 := (by simp only [Bool.and_eq_false_iff, bne_eq_false_iff_eq] at h11; exact h11)
 obtain ⟨n, rfl⟩ : ∃ n : Nat, many = (n : Int) := ⟨many.toNat, by omega⟩
 have he : n8 (n : Int) = (⟨List.replicate n ⟨true, [], 0⟩, 0, -1⟩, true) := (by unfold n8 AE7; rw [if_pos (by rw [Bool.or_eq_true, beq_iff_eq, beq_iff_eq]; exact hm)]; rfl)
 rw [he]
 refine R3 ?_
 refine N3 rfl rfl rfl rfl F3 I5 ?_
 intro v13
 refine Q5 0 rfl fun one_v13 => ?_
 refine A4 rfl (W0 (places := #[(0, 1), (1, 1), (2, 1)]) rfl Q2 Tryz.zeroValue178 (fun w => by kernel_rfl) rfl (D7 (A0 rfl) (M0 one_v13) (D7 D8 (Q1 _ _) T7)) rfl) ?_
 refine R1 ?_
 intro b4
 refine R8 ?_
 refine AWP.le (C1 [0, 0] rfl) ?_
 refine J0 [(0, _), (2, _), (3, _), (4, _)] _ (fun (i : Nat) (v : Value) => i ≤ n) (fun (i : Nat) (v : Value) => [.box b4 178 [AV.is v, AV.int 0, AV.int (-1)], .arr v 207 3 ((List.replicate i (⟨true, [], 0⟩ : E6)).map E6.cs)]) (fun (i : Nat) (v : Value) => [(5, AV.int i)]) (fun (i : Nat) (v : Value) => n - i) (0) (v13) ?_ (H7 B0 ⟨rfl, rfl, rfl, rfl, rfl, trivial⟩) ?_
 ·exact Nat.zero_le _
 intro i v hinv
 refine R7 ?_
 refine A6 (A0 rfl) ?_ ?_
 ·intro h17
  have k17 := of_decide_eq_true h17; try simp only [A5] at k17
  have hlt : i < n := by omega
  refine R9 ?_
  refine F6 (by' := 40) 1 rfl rfl rfl rfl F3 Tryz.type207 rfl rfl rfl rfl rfl rfl (A0 rfl) (A0 rfl) rfl (by simp only [A5, List.length_replicate, O9]; omega) ?_
  intro v25_2
  refine R1 ?_
  refine Q5 1 rfl fun one_v25_2 => ?_
  refine O1 0 rfl rfl rfl (A0 rfl) (A0 rfl) (M0 one_v25_2) rfl p7 rfl ?_
  refine R6 ?_
  refine G4 i v (i + 1) (v25_2) ?_ ?_ (Le.trans (C1 [0, 0] rfl) (H7 (by (rw [List.replicate_succ', List.map_append]; rfl)) ⟨rfl, rfl, rfl, rfl, rfl, trivial⟩))
  ·exact qz8
  omega
 intro h17
 have k17 := of_decide_eq_false h17; try simp only [A5] at k17
 have hge : i = n := by omega
 subst hge
 refine R8 ?_
 exact I0 [1] v (trivial) rfl B0 (U3 rfl D3 (B8 (H1 (ys := _) 2 rfl rfl J9 C8 rfl) (B8 (A8 rfl B0) G6)))
theorem Ba8 (many : Int) : B9 Tryz.prog 164 [AV.int many] (AV.tup [AV.agg (n8 many).1.cs, AV.bool (n8 many).2]) :=
  K2 (Bj8 many) fun v _ => u9 (D0 (TGroup.fl _ v) (D0 H2 U9))
end Go.Proofs.YtcfkbhnpfjjmjaaGreat
namespace Go.M
open Go.AV
structure SB (m : Int) (s : G2) : Prop where
  floor : 0 ≤ s.Floor ∧ s.Floor ≤ m
  leads : ∀ h ∈ s.Held, 0 ≤ h.Lead ∧ h.Lead ≤ 3
end Go.M
namespace Go.Proofs.YtcfkbhnpfjjmjaaGreat
open Go Go.AV Go.M
attribute [local irreducible] OpW OpA OpS AWP B9 J2 C9 OpE RetOk H0 I6 Le Ev F1 J8 V9 Int.tmod Int.tdiv IntKind.wrap bandI
end Go.Proofs.YtcfkbhnpfjjmjaaGreat
namespace Go.Proofs.YtcfkbhnpfjjmjaaGreat
open Go Go.AV Go.M
attribute [local irreducible] OpW OpA OpS AWP B9 J2 C9 OpE RetOk H0 I6 Le Ev F1 J8
end Go.Proofs.YtcfkbhnpfjjmjaaGreat
namespace Go.Proofs.YtcfkbhnpfjjmjaaGreat
open Go Go.AV Go.M
attribute [local irreducible] OpW OpA OpS AWP B9 J2 C9 OpE RetOk H0 I6 Le Ev F1 J8 Int.tmod IntKind.wrap bandI
end Go.Proofs.YtcfkbhnpfjjmjaaGreat
namespace Go.Proofs.YtcfkbhnpfjjmjaaGreat
open Go Go.AV Go.M
attribute [local irreducible] OpW OpA OpS AWP B9 J2 C9 OpE RetOk H0 I6 Le Ev F1 J8
end Go.Proofs.YtcfkbhnpfjjmjaaGreat
namespace Go.M
open Go.AV
theorem CJ5 {g : TGroup} {r : L1} (h : (d7 g r).2 = true) : 0 ≤ g.Lead := by
  unfold d7 at h
  split at h
  · rename_i hc
    rw [Bool.and_eq_true] at hc
    exact (AH5.1 hc.1.1).2.1
  · cases h
end Go.M
namespace Go.Proofs.YtcfkbhnpfjjmjaaGreat
open Go Go.AV Go.M
attribute [local irreducible] OpW OpA OpS AWP B9 J2 C9 OpE RetOk H0 I6 Le Ev F1 J8 V9 Int.tmod Int.tdiv IntKind.wrap bandI
def E6.ocs (r : E6) (y : Value) : List AV := [AV.bool r.Up, AV.is y, AV.int r.Sure]
def E6.ow (r : E6) (y : Value) : List Go.AV.Own := [.arr y 226 8 (r.Log.map J1.cs)]
theorem E6.lcM {own : List Go.AV.Own} (r : E6) (y : Value) (h : ∀ o ∈ E6.ow r y, o ∈ own) : X9 own (E6.ocs r y) r.cs := D0 H2 (D0 (J5 (h _ (C4 (i := 0) rfl)) F4) i3)
theorem CC1 (g : TGroup) (hs : g.size ≤ 1048576) : C9 Tryz.prog 166 [AV.agg g.cs] [] (fun x : Value × List Value => x.2.length = g.Reps.length) (fun x => .arr x.1 207 3 (nrows E6.ocs g.Reps x.2) :: nin E6.ow g.Reps x.2) (fun x => AV.agg [AV.is x.1, AV.int g.Term, AV.int g.Lead]) := by
 have hrs : sizeL E6.size g.Reps ≤ 1048576 := hs
 have hll : g.Reps.length ≤ 1048576 := Nat.le_trans L3 hrs
 refine C6 Tryz.func166 rfl Tryz.ntmps166 rfl ?_
 refine R3 ?_
 intro b1
 refine R1 ?_
 intro b2
 refine R3 ?_
 refine N3 rfl rfl rfl rfl F3 I5 ?_
 intro v5
 refine R4 ?_
 refine Q5 0 rfl fun one_v5 => ?_
 refine A4 rfl (W0 (places := #[(0, 1), (1, 1), (2, 1)]) rfl Q2 Tryz.zeroValue178 (fun w => by kernel_rfl) rfl (D7 (A0 rfl) (M0 one_v5) (D7 (A0 rfl) (Q1 _ _) (D7 (A0 rfl) (Q1 _ _) T7))) rfl) ?_
 refine R1 ?_
 intro b3
 refine R8 ?_
 refine AWP.le (C1 [0, 1, 1, 0] rfl) ?_
 refine Q4 [(1, _), (2, _), (3, _)] [] (fun (i : Nat) (v : Value) (xs : List Value) => i ≤ g.Reps.length ∧ xs.length = i) (fun (i : Nat) (v : Value) (xs : List Value) => [.box b3 178 [AV.is v, AV.int g.Term, AV.int g.Lead], .box b2 178 (List.map zeroA (Value.agg #[Value.slice none 0 0, Value.int IntKind.i64 0, Value.int IntKind.i64 0]).cells.toList), .box b1 178 g.cs, .arr v 207 3 (nrows E6.ocs (g.Reps.take i) xs)] ++ (nin E6.ow (g.Reps.take i) xs)) (fun (i : Nat) (v : Value) (xs : List Value) => [(4, AV.int i)]) (fun (i : Nat) (v : Value) (xs : List Value) => g.Reps.length - i) (0) (v5) ([]) ?_ (H7 B0 ⟨rfl, rfl, rfl, rfl, trivial⟩) ?_
 ·exact ⟨Nat.zero_le _, rfl⟩
 intro i v xs hinv
 refine I3 (List.append_nil _) ?_
 refine R9 ?_
 refine A6 (A0 rfl) ?_ ?_
 ·intro h15
  have k15 := of_decide_eq_true h15; try simp only [A5] at k15
  have hlt : i < g.Reps.length := (by simpa using h15)
  obtain ⟨x, hx⟩ := get_some hlt
  have hsx : sizeL J1.size x.Log ≤ 1048576 := Nat.le_trans (W4 (f := E6.size) hx) hrs
  refine R3 ?_
  refine M3 _ [(0, false), (1, false), (2, false), (3, false), (4, false), (5, false), (6, false), (7, false), (8, false), (9, false), (10, false), (11, false), (12, false), (13, false), (15, false), (16, false), (17, false), (18, false), (19, false), (20, false), (14, true), (21, false), (22, false), (23, true)] F2 F2 rfl (O2 3) ?_
  refine R5 ?_
  refine M4 rfl rfl rfl (fun ext => C7 rfl F3 I5 (A0 rfl) (A0 rfl) hx qz3) ?_
  refine R5 ?_
  refine M4 rfl rfl rfl (fun ext => C7 rfl F3 I5 (A0 rfl) (A0 rfl) hx qz3) ?_
  refine R5 ?_
  refine M4 rfl rfl rfl (fun ext => C7 rfl F3 I5 (A0 rfl) (A0 rfl) hx qz3) ?_
  refine R2 ?_
  refine Q0 rfl rfl rfl (S3 4 (fun _ => rfl) (Y2 4 (O3 [] rfl Tryz.call182 rfl (Ar8 x.Log hsx) (A1 (A0 rfl) A7) rfl))) (fun a _ => qz4) ?_
  intro x32 ok32
  have one_x32 := ok32.2
  replace ok32 := ok32.1
  refine M4 rfl rfl rfl (fun ext => W0 (places := #[(0, 1), (1, 1), (2, 1)]) rfl Y7 Tryz.zeroValue207 (fun w => by kernel_rfl) rfl (D7 (A0 rfl) (u4 _) (D7 (A0 rfl) (M0 one_x32) (D7 (A0 rfl) (Q1 _ _) T7))) rfl) ?_
  refine R1 ?_
  refine Q0 rfl rfl rfl (J6 (by' := 40) 3 rfl F3 Tryz.type207 rfl rfl rfl rfl rfl rfl (A0 rfl) (A0 rfl) rfl BA1) (fun a _ => qz4) ?_
  intro v41_1 _
  refine R2 ?_
  refine Q5 3 rfl fun one_v41_1 => ?_
  refine O1 0 rfl rfl rfl (A0 rfl) (A0 rfl) (M0 one_v41_1) rfl p7 rfl ?_
  refine R1 ?_
  refine AWP.le (C1 [0, 0, 0, 0, 0] rfl) ?_
  refine AWP.le (N4 4 (t := nin E6.ow (g.Reps.take (i + 1)) (xs ++ [x32])) (AI8 (ow := E6.ow) (x := x32) hx hinv.2)) ?_
  refine R5 ?_
  refine L7 i v xs (i + 1) (v41_1) (xs ++ [x32]) ?_ ?_ (Le.trans (C1 [0, 0, 0, 0] rfl) (H7 (Eq.trans (by exact congrArg (fun z => Go.AV.Own.box _ _ _ :: Go.AV.Own.box _ _ _ :: Go.AV.Own.box _ _ _ :: Go.AV.Own.arr _ _ _ z :: _) (AF1 hx hinv.2)) (List.append_nil _).symm) ⟨rfl, rfl, rfl, rfl, trivial⟩))
  ·exact ⟨by omega, by rw [G3, hinv.2]; rfl⟩
  omega
 intro h15
 have k15 := of_decide_eq_false h15; try simp only [A5] at k15
 have hge : i = g.Reps.length := (by have h9 : g.Reps.length ≤ i := (by simpa using h15); omega)
 have hxs := hinv.2.trans hge
 rw [show g.Reps.take i = g.Reps from List.take_of_length_le qz8]
 refine R7 ?_
 exact H3 [3] 3 (nin E6.ow g.Reps xs) [] (v, xs) (hxs) rfl (show List.Perm (nin E6.ow g.Reps xs) ((nin E6.ow g.Reps xs) ++ []) from B5) B0 (E4 rfl (H1 (ys := _) 1 rfl rfl J9 C8 rfl))
theorem CJ6 {own : List Go.AV.Own} {l : List E6} {xs : List Value} {k : Nat} (hm : ∀ o ∈ nin E6.ow (l.eraseIdx k) (xs.eraseIdx k), o ∈ own) {j : Nat} {p : E6} {x : Value} (hp : l[j]? = some p) (hx : xs[j]? = some x) (hj : j ≠ k) : ∀ o ∈ E6.ow p x, o ∈ own := fun o ho => by
  by_cases h : j < k
  · exact hm o (Av0 (i := j) (by rw [List.getElem?_eraseIdx, if_pos h]; exact hp) (by rw [List.getElem?_eraseIdx, if_pos h]; exact hx) o ho)
  · exact hm o (Av0 (i := j - 1) (by rw [List.getElem?_eraseIdx, if_neg qz8, show j - 1 + 1 = j by omega]; exact hp) (by rw [List.getElem?_eraseIdx, if_neg qz8, show j - 1 + 1 = j by omega]; exact hx) o ho)
theorem CJ7 {own : List Go.AV.Own} {l : List E6} {xs : List Value} {k : Nat} {p p' : E6} {y : Value} (hlen : xs.length = l.length) (hp : l[k]? = some p) (hy : xs[k]? = some y) (hm : ∀ o ∈ nin E6.ow (l.eraseIdx k) (xs.eraseIdx k), o ∈ own) : AR1 own (nrows E6.ocs (l.take k) (xs.take k) ++ p'.cs :: nrows E6.ocs (l.drop (k + 1)) (xs.drop (k + 1))) ((l.set k p').map E6.cs) := by
  have hk := (List.getElem?_eq_some_iff.1 hp).1
  have ht := q9 (ocs := E6.ocs) hp hy
  refine ⟨by rw [Ah9 hp hy hlen, A5, List.length_set], fun j a b ha hb => ?_⟩
  rw [List.getElem?_map] at hb
  by_cases hj : j = k
  · subst hj
    rw [List.getElem?_set_self hk] at hb
    rw [List.getElem?_append_right qz8, ht, Nat.sub_self, Af9] at ha
    injection ha with ha; injection hb with hb; subst ha; subst hb
    exact i3
  · rw [List.getElem?_set_ne (fun e => hj e.symm)] at hb
    cases hq : l[j]? with
    | none => rw [hq] at hb; cases hb
    | some q =>
      rw [hq] at hb
      injection hb with hb
      have hjl := (List.getElem?_eq_some_iff.1 hq).1
      obtain ⟨x, hx⟩ : ∃ x, xs[j]? = some x := ⟨_, List.getElem?_eq_getElem qz8⟩
      have ha2 : (nrows E6.ocs l xs)[j]? = some a := by
        rw [s4 hp hy]
        by_cases h : j < k
        · rw [List.getElem?_append_left qz8] at ha ⊢; exact ha
        · rw [List.getElem?_append_right qz8] at ha ⊢
          obtain ⟨m, hm9⟩ : ∃ m, j - (nrows E6.ocs (l.take k) (xs.take k)).length = m + 1 := ⟨j - k - 1, by omega⟩
          rw [hm9] at ha ⊢
          rw [AY4] at ha ⊢
          exact ha
      rw [P4 hq hx] at ha2
      injection ha2 with ha2
      subst ha2; subst hb
      exact E6.lcM q x (CJ6 hm hq hx hj)
theorem Br3 (R : List E6) (tm : Int) (k : Nat) (L : E6) (r : L1) (hL : R[k]? = some L) (hs : (TGroup.mk R tm k).size ≤ 1000000) (hrs : r.size ≤ 1000) (hg : goodGroup ⟨R, tm, k⟩ = true) (hgr : goodRec r = true) (hlen : L.Log.length < 60) : C9 Tryz.prog 190 [AV.agg (TGroup.mk R tm k).cs, AV.agg r.cs] [] (fun x : Value × List Value => x.2.length = R.length) (fun x => .arr x.1 207 3 (nrows E6.ocs (R.take k) (x.2.take k) ++ (E6.mk L.Up (L.Log ++ [⟨tm, r⟩]) L.Sure).cs :: nrows E6.ocs (R.drop (k + 1)) (x.2.drop (k + 1))) :: nin E6.ow (R.eraseIdx k) (x.2.eraseIdx k)) (fun x => AV.tup [AV.agg [AV.is x.1, AV.int tm, AV.int (k : Int)], AV.bool true]) := by
 have hrsz : sizeL E6.size R ≤ 1000000 := hs
 have hkl := (List.getElem?_eq_some_iff.1 hL).1
 have hll : R.length ≤ 1000000 := Nat.le_trans L3 hrsz
 have hlsz : sizeL J1.size L.Log ≤ 1000000 := Nat.le_trans (W4 (f := E6.size) hL) hrsz
 have hnew : sizeL J1.size (L.Log ++ [⟨tm, r⟩]) ≤ 1048576 := by
  have e : sizeL J1.size (L.Log ++ [⟨tm, r⟩]) = sizeL J1.size L.Log + (1 + r.size) := by
   unfold sizeL; rw [List.map_append, List.sum_append]; simp [J1.size]; omega
  omega
 have hld : (TGroup.mk R tm (k : Int)).Lead = (k : Int) := rfl
 have hrl : (TGroup.mk R tm (k : Int)).Reps.length = R.length := rfl
 have hcall : B9 Tryz.prog 182 [AV.list 8 (L.Log.map J1.cs ++ [J1.cs (J1.mk tm r)])] (AV.list 8 ((L.Log ++ [J1.mk tm r]).map J1.cs)) := by
  have h := AS9 (L.Log ++ [⟨tm, r⟩]) hnew
  rw [List.map_append] at h ⊢
  exact h
 refine C6 Tryz.func190 rfl Tryz.ntmps190 rfl ?_
 refine R3 ?_
 intro b2
 refine R1 ?_
 intro b3
 refine R1 ?_
 intro b4
 refine R6 ?_
 refine A4 rfl (B2 rfl Tryz.call205 rfl (AC7 _ Y0) (A1 (A0 rfl) A7)) ?_
 refine R8 ?_
 refine U1 rfl (fun hc => B2 rfl Tryz.call207 rfl (AX4 _ Y0) (A1 (B1 rfl hc) A7)) ?_
 refine R7 ?_
 refine U1 rfl (fun hc => C7 rfl F3 I5 (B1 rfl hc) (B1 rfl hc) hL qz5) ?_
 refine R6 ?_
 refine A6 (A0 rfl) ?_ ?_
 ·intro h30
  exfalso; rw [hg, ← AM3, hgr] at h30; simp at h30; omega
 intro h30
 refine R4 ?_
 refine I1 [] 3 1 ([]) ([]) (fun zz => nin E6.ow R zz.2) rfl rfl rfl rfl Tryz.call166 rfl rfl (show List.Perm ([]) (([]) ++ ([])) from List.Perm.refl _) (CC1 ⟨R, tm, k⟩ qz8) (A1 (A0 rfl) A7) (fun a => J7) ?_
 intro x33 ok33
 refine R1 ?_
 intro b6
 refine R3 ?_
 have hln : x33.2.length = R.length := ok33
 obtain ⟨y, hy⟩ := get_some (show k < x33.2.length by omega)
 rw [s4 hL hy]
 refine AWP.le (N4 5 (t := ([Go.AV.Own.arr y 226 8 (L.Log.map J1.cs)]) ++ (nin E6.ow (R.eraseIdx k) (x33.2.eraseIdx k))) (v9 (ow := E6.ow) hL hy)) ?_
 refine M3 _ [(0, false), (1, false), (2, false), (3, false), (4, false), (5, false), (6, false), (7, false), (8, false), (9, false), (10, false), (11, false), (12, false), (13, false), (14, false), (15, false), (16, true), (17, false)] F2 F2 rfl (O2 5) ?_
 refine R8 ?_
 refine M4 rfl rfl rfl (fun ext => E8 1 rfl F3 I5 (A0 rfl) rfl (A0 rfl) qz8 (by rw [Ah9 hL hy hln]; omega)) ?_
 refine M4 rfl rfl rfl (fun ext => I9 1 rfl Y7 rfl Tryz.sizeOf205 (A0 rfl) rfl rfl (AK4 (q9 hL hy))) ?_
 refine M4 rfl rfl rfl (fun ext => K1 1 rfl (A0 rfl) rfl Tryz.isAgg205 (AK4 (q9 hL hy)) rfl) ?_
 refine R5 ?_
 refine Q0 rfl rfl rfl (AD5 [5] (fun _ => rfl) (fun _ => J5 (C4 (i := 0) rfl) F4) (fun _ => O0) (J6 (by' := 96) 5 rfl M8 Tryz.type226 rfl rfl rfl rfl rfl rfl (A0 rfl) (A0 rfl) rfl qz3)) (fun a _ => qz4) ?_
 intro v50_1 _
 refine M4 rfl rfl rfl (fun ext => B2 rfl Tryz.call182 rfl (hcall) (A1 (A0 rfl) A7)) ?_
 refine R1 ?_
 refine A4 rfl (E8 1 rfl F3 I5 (A0 rfl) rfl (A0 rfl) qz8 (by rw [Ah9 hL hy hln]; omega)) ?_
 refine A4 rfl (I9 1 rfl Y7 rfl Tryz.sizeOf205 (A0 rfl) rfl rfl (AK4 (q9 hL hy))) ?_
 refine Ah4 1 rfl rfl rfl (A0 rfl) (A0 rfl) (Y1 _ _) rfl Tryz.sizeOf205 (q9 hL hy) rfl ?_
 refine R8 ?_
 exact H3 [1] 4 (nin E6.ow (R.eraseIdx k) (x33.2.eraseIdx k)) [] (x33.1, x33.2) (ok33) rfl (show List.Perm (nin E6.ow (R.eraseIdx k) (x33.2.eraseIdx k)) ((nin E6.ow (R.eraseIdx k) (x33.2.eraseIdx k)) ++ []) from B5) B0 (U3 rfl D3 (B8 (H1 (ys := _) 2 rfl rfl J9 C8 rfl) (B8 (A8 rfl B0) G6)))
end Go.Proofs.YtcfkbhnpfjjmjaaGreat
namespace Go.M
open Go.AV
theorem put_in {g : TGroup} {r : L1} (hc : (!((!goodGroup g || decide (g.Lead < 0)) || !l4Good r)) = true) : 0 ≤ g.Lead ∧ g.Lead < g.Reps.length := by
  simp only [Bool.not_eq_true', Bool.or_eq_false_iff, Bool.not_eq_false', decide_eq_false_iff_not] at hc
  have gg := p6.1 hc.1.1
  rcases gg.lead with e | ⟨a, b, _⟩
  · have := hc.1.2; omega
  · exact ⟨a, b⟩
theorem CC2 {g : TGroup} {r : L1} (hno : (d7 g r).2 = false) (h : (((!goodGroup g || decide (g.Lead < 0)) || !l4Good r) || decide ((((repAt g g.Lead).Log.map J1.cs).length : Int) ≥ 60)) = false) : False := by
  rw [A5] at h
  simp only [Bool.or_eq_false_iff, Bool.not_eq_false', decide_eq_false_iff_not] at h
  have hl : hasLead g = true := by unfold hasLead; rw [h.1.1.1, decide_eq_true (by have := h.1.1.2; omega)]; rfl
  unfold d7 at hno
  rw [if_pos ⟨by rw [hl, AM3, h.1.2]; rfl, by have := h.2; omega⟩] at hno
  cases hno
end Go.M
namespace Go.Proofs.YtcfkbhnpfjjmjaaGreat
open Go Go.AV Go.M
attribute [local irreducible] OpW OpA OpS AWP B9 J2 C9 OpE RetOk H0 I6 Le Ev F1 J8 V9 Int.tmod Int.tdiv IntKind.wrap bandI
theorem Br4 (g : TGroup) (r : L1) (hs : g.size ≤ 1048576) (hrs : r.size ≤ 1000) (hno : (d7 g r).2 = false) : B9 Tryz.prog 190 [AV.agg g.cs, AV.agg r.cs] (AV.tup [AV.agg zGroup.cs, AV.bool false]) := by
 refine B7 Tryz.func190 rfl Tryz.ntmps190 rfl ?_
 refine R3 ?_
 intro b2
 refine R1 ?_
 intro b3
 refine R1 ?_
 intro b4
 refine R6 ?_
 refine A4 rfl (B2 rfl Tryz.call205 rfl (AC7 _ Y0) (A1 (A0 rfl) A7)) ?_
 refine R8 ?_
 refine U1 rfl (fun hc => B2 rfl Tryz.call207 rfl (AX4 _ Y0) (A1 (B1 rfl hc) A7)) ?_
 refine R7 ?_
 refine U1 rfl (fun hc => C7 rfl F3 I5 (B1 rfl hc) (B1 rfl hc) (Z5 (put_in hc)) (by have h9 := (put_in hc).1; omega)) ?_
 refine R6 ?_
 refine A6 (A0 rfl) ?_ ?_
 ·intro h30
  refine R7 ?_
  refine Ac1 0 0 3 rfl rfl ?_
  exact U2 rfl D3 (B8 (H1 (ys := _) 0 rfl rfl J9 C8 rfl) (B8 (A8 rfl B0) G6))
 intro h30
 exact (CC2 hno h30).elim
theorem Ba9 (g : TGroup) (r : L1) (hs : g.size ≤ 1000000) (hrs : r.size ≤ 1000) : B9 Tryz.prog 190 [AV.agg g.cs, AV.agg r.cs] (AV.tup [AV.agg (d7 g r).1.cs, AV.bool (d7 g r).2]) := by
  by_cases h : (hasLead g && goodRec r) = true ∧ (repAt g g.Lead).Log.length < 60
  · have he : d7 g r = (setRep g g.Lead ⟨(repAt g g.Lead).Up, (repAt g g.Lead).Log ++ [⟨g.Term, r⟩], (repAt g g.Lead).Sure⟩, true) := if_pos h
    have hh := h.1
    rw [Bool.and_eq_true] at hh
    obtain ⟨gg, l0, l1, hup⟩ := AH5.1 hh.1
    have hL := Z5 (g := g) (r := g.Lead) ⟨l0, l1⟩
    rw [he]
    obtain ⟨R, tm, ld⟩ := g
    obtain ⟨k, hk⟩ : ∃ k : Nat, ld = (k : Int) := ⟨ld.toNat, (Int.toNat_of_nonneg l0).symm⟩
    subst hk
    refine K2 (Br3 R tm k (repAt ⟨R, tm, k⟩ k) r hL hs hrs (p6.2 gg) hh.2 h.2) fun x hx => ?_
    have hkl := (List.getElem?_eq_some_iff.1 hL).1
    have hxl : x.2.length = R.length := hx
    obtain ⟨y, hy⟩ : ∃ y, x.2[k]? = some y := ⟨_, List.getElem?_eq_getElem (show k < x.2.length by rw [hxl]; exact hkl)⟩
    exact u9 (D0 (AW2 (D0 (J5 List.mem_cons_self (CJ7 hxl hL hy fun o ho => List.mem_cons_of_mem _ ho)) i3)) (D0 H2 U9))
  · have he : d7 g r = (zGroup, false) := if_neg h
    rw [he]
    exact Br4 g r qz8 hrs (by rw [he])
end Go.Proofs.YtcfkbhnpfjjmjaaGreat
namespace Go.Proofs.YtcfkbhnpfjjmjaaGreat
open Go Go.AV Go.M
attribute [local irreducible] OpW OpA OpS AWP B9 J2 C9 OpE RetOk H0 I6 Le Ev F1 J8 Int.tmod Int.tdiv IntKind.wrap
theorem BQ0 (x y : H8) : B9 Tryz.prog 254 [AV.agg x.cs, AV.agg y.cs] (AV.bool (AS7 x y)) := by
  refine B7 Tryz.func254 rfl Tryz.ntmps254 rfl ?_
  refine R3 ?_
  intro b2
  refine R1 ?_
  intro b3
  refine R27 ?_
  exact D4 rfl (A8 rfl V1)
theorem CJ8 (l : List Int) (n : Int) : (putI l n).length ≤ l.length + 1 := by
  induction l with
  | nil => simp [putI]
  | cons y l ih =>
    unfold putI
    split
    · rw [H4, H4]; omega
    · split <;> simp
theorem Bj9 {l : List H8} {x y : H8} {i : Nat} (hy : l[i]? = some y) : waitsS (l.take (i + 1)) x = if AS7 x y = true then putI (waitsS (l.take i) x) y.Txn else waitsS (l.take i) x := by
  unfold waitsS
  rw [List.take_add_one, hy, List.filter_append, List.foldl_append]
  cases h : AS7 x y <;> simp [h]
theorem Bk0 (l : List H8) (a : List Int) : (l.foldl (fun a y => putI a y.Txn) a).length ≤ a.length + l.length := by
  induction l generalizing a with
  | nil => simp
  | cons y l ih => rw [List.foldl_cons]; have := ih (putI a y.Txn); have := CJ8 a y.Txn; rw [H4]; omega
theorem Ay8 (l : List H8) (x : H8) : (waitsS l x).length ≤ l.length := by
  unfold waitsS
  have h1 := Bk0 (l.filter (AS7 x)) []
  have h2 := List.length_filter_le (AS7 x) l
  rw [M6] at h1; omega
theorem BI5 {n : Int} : ∀ {l : List Int} {i : Nat}, (∀ j x, j < i → l[j]? = some x → x < n) → i ≤ l.length → (∀ x, l[i]? = some x → ¬ x < n) →
    (∀ x, l[i]? = some x → x = n → putI l n = l) ∧ ((∀ x, l[i]? = some x → x ≠ n) → putI l n = l.take i ++ n :: l.drop i)
  | [], i, _, hi, _ => by simp at hi; subst hi; exact ⟨fun x hx => by simp at hx, fun _ => rfl⟩
  | y :: l, 0, _, _, h2 => by
    have h := h2 y rfl
    unfold putI
    rw [if_neg h]
    refine ⟨fun x hx hn => ?_, fun hn => ?_⟩
    · simp at hx; subst hx; rw [if_pos hn]
    · rw [if_neg (hn y rfl)]; rfl
  | y :: l, i + 1, h1, hi, h2 => by
    have hy := h1 0 y qz8 rfl
    obtain ⟨k1, k2⟩ := BI5 (n := n) (l := l) (i := i) (fun j x hj hx => h1 (j + 1) x qz8 y8) (by simpa using hi) (fun x hx => h2 x y8)
    unfold putI
    rw [if_pos hy]
    refine ⟨fun x hx hn => by rw [k1 x y8 hn], fun hn => by rw [k2 fun x hx => hn x y8]; rfl⟩
theorem CC3 (l : List Int) (n : Int) (hl : l.length ≤ 4194303) : B9 Tryz.prog 169 [ints l, AV.int n] (ints (putI l n)) := by
 refine B7 Tryz.func169 rfl Tryz.ntmps169 rfl ?_
 refine R2 ?_
 refine A4 rfl (D6 rfl (O6 (sz := 1))) ?_
 refine R7 ?_
 refine E2 [(0, _), (1, _), (4, _)] _ (fun (i : Nat) => i ≤ l.length ∧ ∀ j x, j < i → l[j]? = some x → x < n) (fun (i : Nat) => []) (fun (i : Nat) => [(5, AV.int i)]) (fun (i : Nat) => l.length - i) (0) ?_ (E7 ⟨rfl, rfl, rfl, rfl, trivial⟩) ?_
 ·exact ⟨Nat.zero_le _, fun j x h => by omega⟩
 intro i hinv
 obtain ⟨x, hx⟩ := AB6 l i
 have hx0 : i < l.length → l[i]? = some x := hx
 refine R10 ?_
 refine L4 rfl (fun hc => C7 rfl B4 B6 (B1 rfl hc) (B1 rfl hc) (hx qz5) qz5) ?_
 refine R5 ?_
 refine A6 (A0 rfl) ?_ ?_
 ·intro h18
  have hb : i < l.length ∧ x < n := by simpa using h18
  refine R7 ?_
  refine AA9 ?_
  refine E9 i (i + 1) ?_ ?_ (E7 ⟨rfl, rfl, rfl, rfl, trivial⟩)
  ·exact ⟨by omega, fun j y hj hy => (Nat.lt_or_ge j i).elim (fun h => hinv.2 j y h hy) (fun h => by (obtain rfl : j = i := by omega); rw [hx0 hb.1] at hy; injection hy with hy; omega)⟩
  omega
 intro h18
 have hb : i < l.length → ¬ x < n := fun h => by simpa [h] using h18
 obtain ⟨hs1, hs2⟩ := BI5 hinv.2 hinv.1 (fun z hz => by (have hzl := (List.getElem?_eq_some_iff.1 hz).1; rw [hx0 hzl] at hz; injection hz with hz; subst hz; exact hb hzl))
 refine R11 ?_
 refine L4 rfl (fun hc => C7 rfl B4 B6 (B1 rfl hc) (B1 rfl hc) (hx qz5) qz5) ?_
 refine R5 ?_
 refine A6 (A0 rfl) ?_ ?_
 ·intro h32
  have hc : i < l.length ∧ x = n := by simpa using h32
  have he := hs1 x (hx0 hc.1) hc.2
  rw [he]
  refine R6 ?_
  exact D4 rfl (A8 rfl qz75)
 intro h32
 have hc : i < l.length → x ≠ n := fun h => by simpa [h] using h32
 have he := hs2 (fun z hz => by (have hzl := (List.getElem?_eq_some_iff.1 hz).1; rw [hx0 hzl] at hz; injection hz with hz; subst hz; exact hc hzl))
 rw [he]
 refine R3 ?_
 refine N3 rfl rfl rfl rfl B4 B6 ?_
 intro v34
 refine R2 ?_
 refine A4 rfl (i6 rfl B4 B6 (A0 rfl) (A0 rfl) qz3 qz3) ?_
 refine F6 (by' := 8) 0 rfl rfl rfl rfl B4 Tryz.type3 rfl rfl rfl rfl rfl rfl (A0 rfl) (A0 rfl) rfl (by simp only [A5, G9, M6]; omega) ?_
 intro v38_1
 refine R7 ?_
 refine F6 (by' := 8) 0 rfl rfl rfl rfl B4 Tryz.type3 rfl rfl rfl rfl rfl rfl (A0 rfl) (A0 rfl) rfl An4 ?_
 intro v42_2
 refine R7 ?_
 refine A4 rfl (AK2 rfl B4 B6 (A0 rfl) (A0 rfl) qz3 qz3) ?_
 refine F6 (by' := 8) 0 rfl rfl rfl rfl B4 Tryz.type3 rfl rfl rfl rfl rfl rfl (A0 rfl) (A0 rfl) rfl An4 ?_
 intro v47_3
 refine R3 ?_
 refine AD1 0 4 rfl rfl ?_
 exact D4 rfl (A8 rfl qz75)
theorem Bk1 (l : List H8) (x : H8) (hl : l.length ≤ 4194303) : B9 Tryz.prog 252 [AV.list 3 (l.map H8.cs), AV.agg x.cs] (ints (waitsS l x)) := by
 refine B7 Tryz.func252 rfl Tryz.ntmps252 rfl ?_
 refine R3 ?_
 intro b3
 refine A4 rfl (D6 rfl (O6 (sz := 1))) ?_
 refine R3 ?_
 refine A4 rfl (D6 rfl (O6 (sz := 1))) ?_
 refine R9 ?_
 refine E2 [(3, _), (4, _), (8, _), (9, _)] _ (fun (i : Nat) => i ≤ l.length) (fun (i : Nat) => []) (fun (i : Nat) => [(5, ints (waitsS (l.take i) x)), (10, AV.int i)]) (fun (i : Nat) => l.length - i) (0) ?_ (E7 ⟨rfl, rfl, rfl, rfl, rfl, rfl, trivial⟩) ?_
 ·exact Nat.zero_le _
 intro i hinv
 refine R5 ?_
 refine A6 (A0 rfl) ?_ ?_
 ·intro h11
  have k11 := of_decide_eq_true h11; try simp only [A5] at k11
  have hlt : i < l.length := by omega
  obtain ⟨y, hy⟩ := get_some hlt
  have hwt := Bj9 (x := x) hy
  have hwl := Ay8 (l.take i) x
  rw [G9] at hwl
  refine R5 ?_
  refine A4 rfl (C7 rfl U4 i8 (A0 rfl) (A0 rfl) hy qz3) ?_
  refine R2 ?_
  intro b7
  refine R6 ?_
  refine A4 rfl (B2 rfl Tryz.call254 rfl (BQ0 _ _) (A1 (A0 rfl) (A1 (A0 rfl) A7))) ?_
  refine R1 ?_
  refine A6 (A0 rfl) ?_ ?_
  ·intro h16
   have hout : putI (waitsS (l.take i) x) y.Txn = waitsS (l.take (i + 1)) x := by rw [hwt, if_pos h16]
   refine R4 ?_
   refine A4 rfl (B2 rfl Tryz.call169 rfl (CC3 _ _ Y0) (A1 (A0 rfl) (A1 (A0 rfl) A7))) ?_
   refine R6 ?_
   refine E9 i (i + 1) ?_ ?_ (O4 1 ⟨congrArg (fun z => some (ints z)) hout, rfl, rfl, rfl, rfl, rfl, trivial⟩)
   ·omega
   omega
  intro h16
  have hout : waitsS (l.take i) x = waitsS (l.take (i + 1)) x := by rw [hwt, if_neg (by rw [h16]; decide)]
  refine R5 ?_
  refine E9 i (i + 1) ?_ ?_ (O4 1 ⟨congrArg (fun z => some (ints z)) hout, rfl, rfl, rfl, rfl, rfl, trivial⟩)
  ·omega
  omega
 intro h11
 have k11 := of_decide_eq_false h11; try simp only [A5] at k11
 have hge : l.length ≤ i := by omega
 rw [List.take_of_length_le hge]
 refine R7 ?_
 exact D4 rfl (A8 rfl B0)
theorem Bk2 (l : List H8) (fixed : List Int) (x : H8) (hl : l.length ≤ 4194303) : B9 Tryz.prog 246 [AV.list 3 (l.map H8.cs), ints fixed, AV.agg x.cs] (AV.tup [AV.int (AN8 l fixed x (waitsS l x)).1, ints (AN8 l fixed x (waitsS l x)).2]) := by
 obtain ⟨w, hw⟩ : ∃ w, waitsS l x = w := ⟨_, rfl⟩
 have hwl := Ay8 l x
 rw [hw] at hwl
 refine B7 Tryz.func246 rfl Tryz.ntmps246 rfl ?_
 refine R3 ?_
 intro b5
 refine R1 ?_
 refine A4 rfl (D6 rfl (O6 (sz := 1))) ?_
 refine R5 ?_
 refine A4 rfl (B2 rfl Tryz.call252 rfl (Bk1 _ _ Y0) (A1 (A0 rfl) (A1 (A0 rfl) A7))) ?_
 refine R4 ?_
 rw [hw]
 refine R5 ?_
 refine A6 (A0 rfl) ?_ ?_
 ·intro h16
  have k16 := D1 h16; try simp only [A5] at k16
  have he : AN8 l fixed x w = (1, []) := by (unfold AN8; rw [if_pos qz8])
  rw [he]
  refine R3 ?_
  refine A4 rfl (D6 rfl (O6 (sz := 1))) ?_
  refine R2 ?_
  exact U2 rfl D3 (B8 (A8 rfl B0) (B8 (A8 rfl B0) G6))
 intro h16
 have k16 := D5 h16; try simp only [A5] at k16
 refine R9 ?_
 refine E2 [(1, _), (5, _), (8, _), (17, _), (18, _)] _ (fun (i : Nat) => i ≤ w.length ∧ (w.any fun t => decide (t < x.Txn) || fixed.any fun y => t == y) = ((w.drop i).any fun t => decide (t < x.Txn) || fixed.any fun y => t == y)) (fun (i : Nat) => []) (fun (i : Nat) => [(19, AV.int i)]) (fun (i : Nat) => w.length - i) (0) ?_ (E7 ⟨rfl, rfl, rfl, rfl, rfl, rfl, trivial⟩) ?_
 ·exact ⟨Nat.zero_le _, rfl⟩
 intro i hinv
 refine R5 ?_
 refine A6 (A0 rfl) ?_ ?_
 ·intro h20
  have k20 := of_decide_eq_true h20; try simp only [A5] at k20
  have hlt : i < w.length := by omega
  obtain ⟨y, hx⟩ := get_some hlt
  refine R5 ?_
  refine A4 rfl (C7 rfl B4 B6 (A0 rfl) (A0 rfl) hx qz3) ?_
  refine R12 ?_
  refine U1 rfl (fun hc => B2 rfl Tryz.call58 rfl (CJ1 _ _) (A1 (B1 rfl hc) (A1 (B1 rfl hc) A7))) ?_
  refine R2 ?_
  refine A6 (A0 rfl) ?_ ?_
  ·intro h31
   have hany : (w.any fun t => decide (t < x.Txn) || fixed.any fun y => t == y) = true := by (rw [hinv.2, drop_some hx, List.any_cons, h31]; rfl)
   have he : AN8 l fixed x w = (2, []) := by (unfold AN8; rw [if_neg qz8, if_pos hany])
   rw [he]
   refine R3 ?_
   refine A4 rfl (D6 rfl (O6 (sz := 1))) ?_
   refine R2 ?_
   exact U2 rfl D3 (B8 (A8 rfl B0) (B8 (A8 rfl B0) G6))
  intro h31
  refine R5 ?_
  refine E9 i (i + 1) ?_ ?_ (E7 ⟨rfl, rfl, rfl, rfl, rfl, rfl, trivial⟩)
  ·exact ⟨by omega, by rw [hinv.2, drop_some hx, List.any_cons, h31]; rfl⟩
  omega
 intro h20
 have k20 := of_decide_eq_false h20; try simp only [A5] at k20
 have hge : w.length ≤ i := by omega
 have hany : (w.any fun t => decide (t < x.Txn) || fixed.any fun y => t == y) = false := by (rw [hinv.2, List.drop_eq_nil_of_le hge]; rfl)
 have he : AN8 l fixed x w = (3, w) := by (unfold AN8; rw [if_neg qz8, if_neg (by rw [hany]; decide)])
 rw [he]
 refine R8 ?_
 exact U2 rfl D3 (B8 (A8 rfl B0) (B8 (A8 rfl B0) G6))
theorem BI6 {α β : Type} {c : α → β} : ∀ {l : List α} {k : Nat} {y : α}, l[k]? = some y → l.map c = (l.take k).map c ++ c y :: (l.drop (k + 1)).map c
  | [], k, y, h => by simp at h
  | x :: l, 0, y, h => by simp at h; subst h; rfl
  | x :: l, k + 1, y, h => by
    rw [List.map_cons, BI6 (c := c) (l := l) (k := k) (y := y) s9]; rfl
theorem map_len9 {α β : Type} {c : α → β} {l : List α} {k : Nat} {y : α} (h : l[k]? = some y) : ((l.take k).map c).length = k := by
  have := (List.getElem?_eq_some_iff.1 h).1
  rw [A5, G9]; omega
theorem Ay9 {l : List H8} {x : H8} {i : Nat} (h : takeL l x = l.take i ++ takeL (l.drop i) x) {y : H8} (hy : l[i]? = some y) :
    (((y.Key == x.Key) && (y.Txn == x.Txn)) = true → takeL l x = l.take i ++ ⟨y.Key, y.Txn, y.Write || x.Write⟩ :: l.drop (i + 1)) ∧ (((y.Key == x.Key) && (y.Txn == x.Txn)) = false → takeL l x = l.take (i + 1) ++ takeL (l.drop (i + 1)) x) := by
  rw [drop_some hy] at h
  constructor
  · intro hc
    rw [h]; unfold takeL; rw [hc, if_pos rfl]
  · intro hc
    rw [h, List.take_add_one, hy]; rw [takeL, hc, if_neg D3]; simp
theorem Bb0 (l : List H8) (x : H8) (hl : l.length ≤ 4194303) : B9 Tryz.prog 247 [AV.list 3 (l.map H8.cs), AV.agg x.cs] (AV.list 3 ((takeL l x).map H8.cs)) := by
 refine B7 Tryz.func247 rfl Tryz.ntmps247 rfl ?_
 refine R3 ?_
 intro b3
 refine A4 rfl (D6 rfl (O6 (sz := 3))) ?_
 refine R3 ?_
 refine N3 rfl rfl rfl rfl U4 i8 ?_
 intro v8
 refine R1 ?_
 refine F6 (by' := 32) 0 rfl rfl rfl rfl U4 Tryz.type277 rfl rfl rfl rfl rfl rfl (A0 rfl) (A0 rfl) rfl qz3 ?_
 intro v10_1
 refine R10 ?_
 refine I3 (congrArg (fun z => Own.arr v10_1 277 3 z :: _) (List.nil_append _)) ?_
 refine E2 [(3, _), (5, _), (11, _), (12, _)] _ (fun (i : Nat) => i ≤ l.length ∧ takeL l x = l.take i ++ takeL (l.drop i) x) (fun (i : Nat) => []) (fun (i : Nat) => [(13, AV.int i)]) (fun (i : Nat) => l.length - i) (0) ?_ (E7 ⟨rfl, rfl, rfl, rfl, rfl, trivial⟩) ?_
 ·exact ⟨Nat.zero_le _, rfl⟩
 intro i hinv
 refine R5 ?_
 refine A6 (A0 rfl) ?_ ?_
 ·intro h14
  have k14 := of_decide_eq_true h14; try simp only [A5] at k14
  have hlt : i < l.length := by (simp only [G3, M6, A5, O9] at k14; omega)
  obtain ⟨y, hy⟩ := get_some hlt
  refine R6 ?_
  refine A4 rfl (E8 0 rfl U4 i8 (A0 rfl) rfl (A0 rfl) qz8 qz165) ?_
  refine A4 rfl (W9 0 rfl (A0 rfl) rfl Tryz.isAgg277 i8 (by rw [Int.toNat_natCast, List.getElem?_map, hy]; rfl) D3) ?_
  refine R1 ?_
  intro b7
  refine R18 ?_
  refine A6 (A0 rfl) ?_ ?_
  ·intro h29
   have he := (Ay9 hinv.2 hy).1 h29
   have hA := map_len9 (c := H8.cs) hy
   rw [he, List.map_append, List.map_cons]
   refine I3 (congrArg (fun z => _ :: Own.arr v10_1 277 3 z :: _) (BI6 hy)) ?_
   refine R10 ?_
   refine A4 rfl (E8 1 rfl U4 i8 (A0 rfl) rfl (A0 rfl) qz8 qz165) ?_
   refine A4 rfl (I9 1 rfl Tryz.underlying277 rfl N9 (A0 rfl) rfl rfl (AK4 qz3)) ?_
   refine Ah4 1 rfl rfl rfl (A0 rfl) (A0 rfl) (u4 _) rfl N9 qz3 rfl ?_
   refine R7 ?_
   refine AD1 1 4 rfl rfl ?_
   exact D4 rfl (A8 rfl B0)
  intro h29
  refine R5 ?_
  refine E9 i (i + 1) ?_ ?_ (O4 1 ⟨rfl, rfl, rfl, rfl, rfl, trivial⟩)
  ·exact ⟨by omega, (Ay9 hinv.2 hy).2 h29⟩
  omega
 intro h14
 have k14 := of_decide_eq_false h14; try simp only [A5] at k14
 have hge : l.length ≤ i := by (simp only [G3, M6, A5, O9] at k14; omega)
 have he : takeL l x = l ++ [x] := by (have := hinv.2; rwa [List.take_of_length_le hge, List.drop_eq_nil_of_le hge] at this)
 rw [he, List.map_append, List.map_cons]
 refine R6 ?_
 refine F6 (by' := 32) 0 rfl rfl rfl rfl U4 Tryz.type277 rfl rfl rfl rfl rfl rfl (A0 rfl) (A0 rfl) rfl (by rw [A5, O9]; omega) ?_
 intro v45_2
 refine R3 ?_
 refine AD1 0 4 rfl rfl ?_
 exact D4 rfl (A8 rfl B0)
def w6 (l : List H8) (t : Int) (of : Bool) : List H8 := l.filter fun y => ((y.Txn == t) == of)
theorem Br5 {l : List H8} {t : Int} {of : Bool} {i : Nat} {y : H8} (hy : l[i]? = some y) : (w6 (l.take (i + 1)) t of).map H8.cs = (w6 (l.take i) t of).map H8.cs ++ (if ((y.Txn == t) == of) = true then [H8.cs y] else []) := by
  unfold w6
  rw [List.take_add_one, hy, List.filter_append, List.map_append]
  cases h : ((y.Txn == t) == of) <;> simp [h]
theorem CC4 (l : List H8) (t : Int) (of : Bool) : (w6 l t of).length ≤ l.length := List.length_filter_le _ _
theorem Br6 (l : List H8) (t : Int) (of : Bool) (hl : l.length ≤ 4194303) : B9 Tryz.prog 215 [AV.list 3 (l.map H8.cs), AV.int t, AV.bool of] (AV.list 3 ((w6 l t of).map H8.cs)) := by
 refine B7 Tryz.func215 rfl Tryz.ntmps215 rfl ?_
 refine R2 ?_
 refine A4 rfl (D6 rfl (O6 (sz := 3))) ?_
 refine R3 ?_
 refine P1 277 3 rfl rfl rfl rfl G8 ?_
 intro v7
 refine R9 ?_
 refine J0 [(1, _), (2, _), (6, _), (10, _), (11, _)] _ (fun (i : Nat) (v : Value) => i ≤ l.length) (fun (i : Nat) (v : Value) => [.arr v 277 3 ((w6 (l.take i) t of).map H8.cs)]) (fun (i : Nat) (v : Value) => [(7, AV.is v), (12, AV.int i)]) (fun (i : Nat) (v : Value) => l.length - i) (0) (v7) ?_ (H7 B0 ⟨rfl, rfl, rfl, rfl, rfl, rfl, rfl, trivial⟩) ?_
 ·exact Nat.zero_le _
 intro i v hinv
 refine R5 ?_
 refine A6 (A0 rfl) ?_ ?_
 ·intro h13
  have k13 := of_decide_eq_true h13; try simp only [A5] at k13
  have hlt : i < l.length := by omega
  obtain ⟨y, hy⟩ := get_some hlt
  have hst := Br5 (t := t) (of := of) hy
  have hpl := CC4 (l.take i) t of
  rw [G9] at hpl
  refine R5 ?_
  refine A4 rfl (C7 rfl U4 i8 (A0 rfl) (A0 rfl) hy qz3) ?_
  refine R2 ?_
  intro b9
  refine R9 ?_
  refine A4 rfl (w_beql rfl V0 (A0 rfl) (A0 rfl)) ?_
  refine R1 ?_
  refine A6 (A0 rfl) ?_ ?_
  ·intro h21
   have hout : (w6 (l.take i) t of).map H8.cs ++ [H8.cs y] = (w6 (l.take (i + 1)) t of).map H8.cs := by rw [hst, if_pos h21]
   refine R4 ?_
   refine F6 (by' := 32) 1 rfl rfl rfl rfl U4 Tryz.type277 rfl rfl rfl rfl rfl rfl (A0 rfl) (A0 rfl) rfl (by rw [A5, O9]; omega) ?_
   intro v25_1
   refine R6 ?_
   refine G4 i v (i + 1) (v25_1) ?_ ?_ (Le.trans (C1 [0, 0] rfl) (E0 1 (by exact congrArg (fun z => [Own.arr _ 277 3 z]) hout) ⟨rfl, rfl, rfl, rfl, rfl, rfl, rfl, trivial⟩))
   ·omega
   omega
  intro h21
  have hout : (w6 (l.take i) t of).map H8.cs = (w6 (l.take (i + 1)) t of).map H8.cs := by rw [hst, if_neg (by rw [h21]; decide), List.append_nil]
  refine R5 ?_
  refine G4 i v (i + 1) (v) ?_ ?_ (Le.trans (C1 [0, 0] rfl) (E0 1 (by exact congrArg (fun z => [Own.arr _ 277 3 z]) hout) ⟨rfl, rfl, rfl, rfl, rfl, rfl, rfl, trivial⟩))
  ·omega
  omega
 intro h13
 have k13 := of_decide_eq_false h13; try simp only [A5] at k13
 have hge : l.length ≤ i := by omega
 rw [List.take_of_length_le hge]
 refine R7 ?_
 refine AD1 0 6 rfl rfl ?_
 exact D4 rfl (A8 rfl B0)
end Go.Proofs.YtcfkbhnpfjjmjaaGreat
namespace Go.Proofs
open Go.Shelf
end Go.Proofs
namespace Go.Proofs.YtcfkbhnpfjjmjaaGreat
open Go Go.AV Go.M
attribute [local irreducible] OpW OpA OpS AWP B9 J2 C9 OpE RetOk H0 I6 Le Ev F1 J8 Int.tmod Int.tdiv IntKind.wrap
theorem BI7 (n : Nat) : n ≤ 1000000000000 → B9 Tryz.prog 172 [AV.int n] (AV.str (decD n)) := by
 induction n using Nat.strongRecOn with
 | ind n ih =>
  intro hn
  refine B7 Tryz.func172 rfl Tryz.ntmps172 rfl ?_
  refine R2 ?_
  refine A4 rfl (D6 rfl (L5 (l := []) rfl)) ?_
  refine R7 ?_
  refine A6 (A0 rfl) ?_ ?_
  ·intro h4
   have k4 := of_decide_eq_true h4; try simp only [A5] at k4
   have hn10 : n < 10 := by omega
   refine R4 ?_
   refine A4 rfl (AG8 rfl F2 Tryz.underlying5 (A0 rfl)) ?_
   rw [dig1]
   refine R1 ?_
   refine A4 rfl (Bu2 (bs := [UInt8.ofNat (48 + n)]) rfl d8 Tryz.underlying5 M5 (A0 rfl)) ?_
   refine R3 ?_
   exact D4 rfl (A8 rfl qz172)
  intro h4
  have k4 := of_decide_eq_false h4; try simp only [A5] at k4
  have hn10 : ¬ n < 10 := by omega
  have hdl := AX1 (k := 12) (n := n / 10) qz8 D3
  refine R4 ?_
  refine C3 rfl rfl (Bd0 rfl (A0 rfl) D8 D3) ?_
  rw [quo10 hn]
  refine C3 rfl rfl (B2 rfl Tryz.call172 rfl (ih (n / 10) qz8 qz8) (A1 (A0 rfl) A7)) ?_
  refine R1 ?_
  refine C3 rfl rfl (Ag3 rfl (A0 rfl) D8 D3) ?_
  refine C3 rfl rfl (Ad3 rfl D8 (A0 rfl) (by rw [tmod10T]; omega)) ?_
  refine C3 rfl rfl (AG8 rfl F2 Tryz.underlying5 (A0 rfl)) ?_
  rw [dig2]
  refine R1 ?_
  refine C3 rfl rfl (Bu2 (bs := [UInt8.ofNat (48 + n % 10)]) rfl d8 Tryz.underlying5 M5 (A0 rfl)) ?_
  refine C3 rfl rfl (w_cat rfl (A0 rfl) (A0 rfl) qz178) ?_
  refine R3 ?_
  exact D4 rfl (A8 rfl qz172)
theorem CJ9 (b : UInt8) (r : Str) : AY0 (b :: r) = (!within ((b :: r).length : Nat) 1 6 || (((b.toNat : Int) == 48) && decide ((1 : Int) < ((b :: r).length : Nat)))) := by
  unfold AY0
  have : (b == 48) = ((b.toNat : Int) == 48) := by
    by_cases h : b = 48
    · subst h; rfl
    · have h2 : b.toNat ≠ 48 := fun e => h (UInt8.toNat_inj.1 e)
      have h3 : (b == 48) = false := by simpa using h
      rw [h3]; symm; simp; omega
  simp [this]
theorem dig_val9 {x : UInt8} (h : 48 ≤ x.toNat ∧ x.toNat ≤ 57) : IntKind.i64.wrap (IntKind.u8.wrap ((x.toNat : Int) - 48)) = ((x.toNat - 48 : Nat) : Int) := by
  have e : IntKind.u8.wrap ((x.toNat : Int) - 48) = ((x.toNat - 48 : Nat) : Int) := by
    simp [IntKind.wrap, IntKind.bits, IntKind.signed]; omega
  rw [e, AV8 qz8]
theorem rd_next9 {n i : Nat} {s : Str} {x : UInt8} (hx : s[i]? = some x) (h : 48 ≤ x.toNat ∧ x.toNat ≤ 57) : V8 n (s.drop i) = V8 (10 * n + (x.toNat - 48)) (s.drop (i + 1)) := by
  have hlt := (List.getElem?_eq_some_iff.1 hx).1
  rw [List.drop_eq_getElem_cons hlt, (List.getElem?_eq_some_iff.1 hx).2]
  conv => lhs; unfold V8
  rw [if_pos (by unfold Ab0; simp; omega)]
theorem rd_stop9 {n i : Nat} {s : Str} {x : UInt8} (hx : s[i]? = some x) (h : x.toNat < 48 ∨ 57 < x.toNat) : V8 n (s.drop i) = -1 := by
  have hlt := (List.getElem?_eq_some_iff.1 hx).1
  rw [List.drop_eq_getElem_cons hlt, (List.getElem?_eq_some_iff.1 hx).2]
  conv => lhs; unfold V8
  rw [if_neg (by unfold Ab0; simp; omega)]
theorem pow69 {i : Nat} (h : i ≤ 6) : 10 ^ i ≤ 1000000 := Nat.pow_le_pow_right D3 h
theorem pow_nx9 {n i d : Nat} (h : n + 1 ≤ 10 ^ i) (hd : d ≤ 9) : (10 * n + d) + 1 ≤ 10 ^ (i + 1) := by rw [Nat.pow_succ]; omega
theorem Br7 : B9 Tryz.prog 171 [AV.str []] (AV.int (l1R [])) := by
 refine B7 Tryz.func171 rfl Tryz.ntmps171 rfl ?_
 refine R9 ?_
 refine A4 rfl (B2 rfl Tryz.call30 rfl (M9 _ _ _) (A1 (A0 rfl) (A1 D8 (A1 D8 A7)))) ?_
 refine R3 ?_
 refine U1 rfl (fun hc => (show OpW _ _ _ _ _ _ (AV.byte 0) from (by exfalso; revert hc; decide))) ?_
 refine R8 ?_
 refine A6 (A0 rfl) ?_ ?_
 ·intro h18
  refine R5 ?_
  exact D4 rfl (A8 rfl B0)
 intro h18
 exfalso; revert h18; decide
theorem Bk3 (b : UInt8) (r : Str) (hs : (b :: r).length ≤ 1048576) : B9 Tryz.prog 171 [AV.str (b :: r)] (AV.int (l1R (b :: r))) := by
 have hb0 : (b :: r)[0]? = some b := rfl
 obtain ⟨s, hse⟩ : ∃ s, b :: r = s := ⟨_, rfl⟩
 have hbad := CJ9 b r
 rw [hse] at hs hb0 hbad ⊢
 refine B7 Tryz.func171 rfl Tryz.ntmps171 rfl ?_
 refine R9 ?_
 refine A4 rfl (B2 rfl Tryz.call30 rfl (M9 _ _ _) (A1 (A0 rfl) (A1 D8 (A1 D8 A7)))) ?_
 refine R3 ?_
 refine U1 rfl (fun hc => t7 rfl M5 (B1 rfl hc) D8 (by have := (List.getElem?_eq_some_iff.1 hb0).1; omega) hb0) ?_
 refine R8 ?_
 refine A6 (A0 rfl) ?_ ?_
 ·intro h18
  have he : l1R s = -1 := if_pos (by rw [hbad]; exact h18)
  rw [he]
  refine R5 ?_
  exact D4 rfl (A8 rfl B0)
 intro h18
 have he : l1R s = V8 0 s := if_neg (by rw [hbad, h18]; decide)
 rw [he]
 have hl6 : s.length ≤ 6 := (by simp only [Bool.or_eq_false_iff, Bool.not_eq_false'] at h18; have h9 := h18.1; unfold within at h9; simp at h9; omega)
 refine R11 ?_
 refine J0 [(0, _)] _ (fun (i : Nat) (n : Nat) => i ≤ s.length ∧ V8 0 s = V8 n (s.drop i) ∧ n + 1 ≤ 10 ^ i) (fun (i : Nat) (n : Nat) => []) (fun (i : Nat) (n : Nat) => [(3, AV.int n), (4, AV.int i)]) (fun (i : Nat) (n : Nat) => s.length - i) (0) (0) ?_ (E7 ⟨rfl, rfl, rfl, trivial⟩) ?_
 ·exact ⟨Nat.zero_le _, rfl, by decide⟩
 intro i n hinv
 have hp6 := pow69 (i := i) qz8
 have hn6 := hinv.2.2
 refine R8 ?_
 refine A6 (A0 rfl) ?_ ?_
 ·intro h22
  have k22 := of_decide_eq_true h22; try simp only [A5] at k22
  obtain ⟨x, hx⟩ := get_some (show i < s.length by omega)
  refine R8 ?_
  refine A4 rfl (t7 rfl M5 (A0 rfl) (A0 rfl) qz8 hx) ?_
  refine R4 ?_
  refine U1 rfl (fun hc => t7 rfl M5 (B1 rfl hc) (B1 rfl hc) qz8 hx) ?_
  refine R3 ?_
  refine A6 (A0 rfl) ?_ ?_
  ·intro h34
   have hst := rd_stop9 (n := n) hx (by simp only [Bool.or_eq_true, decide_eq_true_eq] at h34; omega)
   rw [hinv.2.1, hst]
   refine R5 ?_
   exact D4 rfl (A8 rfl B0)
  intro h34
  have hdig : 48 ≤ x.toNat ∧ x.toNat ≤ 57 := (by simp only [Bool.or_eq_false_iff, decide_eq_false_iff_not] at h34; omega)
  refine R3 ?_
  refine A4 rfl (AR3 rfl D8 (A0 rfl) qz3) ?_
  refine R2 ?_
  refine A4 rfl (t7 rfl M5 (A0 rfl) (A0 rfl) qz8 hx) ?_
  refine A4 rfl (w_sub rfl (A0 rfl) D8) ?_
  refine A4 rfl (AG8 rfl F2 c5 (A0 rfl)) ?_
  rw [dig_val9 hdig]
  refine R8 ?_
  refine G4 i n (i + 1) (10 * n + (x.toNat - 48)) ?_ ?_ (E7 ⟨congrArg (fun z => some (AV.int z)) qz8, rfl, rfl, trivial⟩)
  ·exact ⟨by omega, hinv.2.1.trans (rd_next9 hx hdig), pow_nx9 hinv.2.2 qz8⟩
  omega
 intro h22
 have k22 := of_decide_eq_false h22; try simp only [A5] at k22
 have hend : V8 0 s = (n : Int) := (by rw [hinv.2.1, List.drop_of_length_le qz8]; rfl)
 rw [hend]
 refine R7 ?_
 exact D4 rfl (A8 rfl B0)
theorem Ar9 (s : Str) (hs : s.length ≤ 1048576) : B9 Tryz.prog 171 [AV.str s] (AV.int (l1R s)) := by
  cases s with
  | nil => exact Br7
  | cons b r => exact Bk3 b r hs
theorem Bk4 (s : Str) : -1 ≤ l1R s := by
  have h : ∀ (s : Str) (n : Nat), -1 ≤ V8 n s := by
    intro s
    induction s with
    | nil => intro n; unfold V8; omega
    | cons b s ih => intro n; unfold V8; split; exact ih _; omega
  unfold l1R; split
  · omega
  · exact h s 0
theorem rd_up9 : ∀ (s : Str) (n k : Nat), n + 1 ≤ 10 ^ k → V8 n s + 1 ≤ 10 ^ (k + s.length)
  | [], n, k, h => by
    have : ((n + 1 : Nat) : Int) ≤ ((10 ^ k : Nat) : Int) := Int.ofNat_le.2 h
    simp only [V8, M6, Nat.add_zero]
    push_cast at this ⊢; exact this
  | b :: s, n, k, h => by
    unfold V8
    split
    · rename_i hd
      have h2 : b.toNat - 48 ≤ 9 := by unfold Ab0 at hd; simp at hd; omega
      have := rd_up9 s (10 * n + (b.toNat - 48)) (k + 1) (by rw [Nat.pow_succ]; omega)
      rw [H4, show k + (s.length + 1) = k + 1 + s.length by omega]; exact this
    · have : (0 : Int) ≤ 10 ^ (k + (b :: s).length) := Int.pow_nonneg D3
      omega
theorem Bv8 (s : Str) : l1R s ≤ 999999 := by
  unfold l1R; split
  · omega
  · rename_i h
    have hl : s.length ≤ 6 := by
      unfold AY0 within at h
      simp only [Bool.or_eq_true, not_or] at h
      have := h.1; simp at this; omega
    have h1 := rd_up9 s 0 0 D3
    have h2 : (10 : Int) ^ (0 + s.length) ≤ 10 ^ 6 := by
      have := Nat.pow_le_pow_right (n := 10) D3 (show 0 + s.length ≤ 6 by omega)
      exact_mod_cast this
    have h3 : (10 : Int) ^ 6 = 1000000 := by decide
    omega
theorem Ad0 (s : Str) (hs : s.length ≤ 1048576) : B9 Tryz.prog 153 [AV.str s] (AV.tup [AV.int (l5N s).1, AV.bool (l5N s).2]) := by
 have hlo1 := Bk4 s
 have hlo2 := Bk4 (s.drop 1)
 have hup1 := Bv8 s
 have hup2 := Bv8 (s.drop 1)
 have hd1 : (s.drop 1).length ≤ 1048576 := by rw [List.length_drop]; omega
 obtain ⟨b0, hb0⟩ := AB6 s 0
 have hneg : (decide ((0 : Int) < (s.length : Int)) && ((b0.toNat : Int) == 45)) = decide (s.head? = some 45) := by
  cases s with
  | nil => rfl
  | cons c r =>
   have e := hb0 S5
   simp at e; subst e
   rw [Bool.eq_iff_iff]
   simp only [H4, Bool.and_eq_true, decide_eq_true_eq, beq_iff_eq, List.head?_cons, Option.some.injEq]
   constructor
   ·intro h; exact UInt8.toNat_inj.1 (by have := h.2; simp; omega)
   intro h; subst h; exact ⟨by omega, rfl⟩
 refine B7 Tryz.func153 rfl Tryz.ntmps153 rfl ?_
 refine R12 ?_
 refine L4 rfl (fun hc => t7 rfl M5 (B1 rfl hc) D8 qz8 (hb0 Af4)) ?_
 refine R5 ?_
 rw [hneg]
 refine R9 ?_
 refine A6 (A0 rfl) ?_ ?_
 ·intro h16
  have hh : s.head? = some 45 := of_decide_eq_true h16
  have hbody : (if s.head? = some 45 then s.drop 1 else s) = s.drop 1 := if_pos hh
  have hl1 : 1 ≤ s.length := by (cases s with | nil => cases hh | cons c r => simp)
  refine R2 ?_
  refine A4 rfl (w_ssl_lo rfl M5 (A0 rfl) D8 qz3 qz3) ?_
  refine R5 ?_
  refine A4 rfl (B2 rfl Tryz.call171 rfl (Ar9 _ (by first | exact hs | exact hd1)) (A1 (A0 rfl) A7)) ?_
  refine R15 ?_
  refine A6 (A0 rfl) ?_ ?_
  ·intro h29
   have he : l5N s = (0, false) := by (unfold l5N; rw [hbody]; exact if_pos h29)
   rw [he]
   refine R6 ?_
   exact U2 rfl D3 (B8 (A8 rfl AS8) (B8 (A8 rfl AS8) G6))
  intro h29
  have he : l5N s = if s.head? = some 45 then (-(l1R (s.drop 1)), true) else (l1R s, true) := by (unfold l5N; rw [hbody]; exact if_neg (fun e => Bool.noConfusion (e.symm.trans h29)))
  rw [he]
  refine R6 ?_
  refine A6 (A0 rfl) ?_ ?_
  ·intro h30
   rw [if_pos (of_decide_eq_true h30)]
   refine R3 ?_
   refine A4 rfl (w_neg rfl (A0 rfl)) ?_
   refine R4 ?_
   exact U2 rfl D3 (B8 (A8 rfl AS8) (B8 (A8 rfl AS8) G6))
  intro h30
  rw [if_neg (of_decide_eq_false h30)]
  refine R8 ?_
  exact U2 rfl D3 (B8 (A8 rfl AS8) (B8 (A8 rfl AS8) G6))
 intro h16
 have hh : ¬ s.head? = some 45 := of_decide_eq_false h16
 have hbody : (if s.head? = some 45 then s.drop 1 else s) = s := if_neg hh
 refine R4 ?_
 refine A4 rfl (B2 rfl Tryz.call171 rfl (Ar9 _ (by first | exact hs | exact hd1)) (A1 (A0 rfl) A7)) ?_
 refine R15 ?_
 refine A6 (A0 rfl) ?_ ?_
 ·intro h29
  have he : l5N s = (0, false) := by (unfold l5N; rw [hbody]; exact if_pos h29)
  rw [he]
  refine R6 ?_
  exact U2 rfl D3 (B8 (A8 rfl AS8) (B8 (A8 rfl AS8) G6))
 intro h29
 have he : l5N s = if s.head? = some 45 then (-(l1R (s.drop 1)), true) else (l1R s, true) := by (unfold l5N; rw [hbody]; exact if_neg (fun e => Bool.noConfusion (e.symm.trans h29)))
 rw [he]
 refine R6 ?_
 refine A6 (A0 rfl) ?_ ?_
 ·intro h30
  rw [if_pos (of_decide_eq_true h30)]
  refine R3 ?_
  refine A4 rfl (w_neg rfl (A0 rfl)) ?_
  refine R4 ?_
  exact U2 rfl D3 (B8 (A8 rfl AS8) (B8 (A8 rfl AS8) G6))
 intro h30
 rw [if_neg (of_decide_eq_false h30)]
 refine R8 ?_
 exact U2 rfl D3 (B8 (A8 rfl AS8) (B8 (A8 rfl AS8) G6))
theorem CC5 (o : TOp) (hs : o.size ≤ 1048576) : B9 Tryz.prog 176 [AV.agg o.cs] (AV.bool (l5Op o)) := by
 have hs' := hs; unfold TOp.size at hs'
 refine B7 Tryz.func176 rfl Tryz.ntmps176 rfl ?_
 refine R3 ?_
 intro b1
 refine R7 ?_
 refine A4 rfl (B2 rfl Tryz.call99 rfl (AA0 _ qz8) (A1 (A0 rfl) A7)) ?_
 refine R2 ?_
 refine A6 (A0 rfl) ?_ ?_
 ·intro h6
  refine R5 ?_
  exact D4 rfl (A8 rfl AV7)
 intro h6
 refine R14 ?_
 refine A6 (A0 rfl) ?_ ?_
 ·intro h9
  have k9 := D1 h9; try simp only [A5] at k9
  refine R1 ?_
  refine A6 (A0 rfl) ?_ ?_
  ·intro h9
   have k9 := D1 h9; try simp only [A5] at k9
   refine R4 ?_
   refine A4 rfl (B2 rfl Tryz.call100 rfl (AU1 _ qz8) (A1 (A0 rfl) A7)) ?_
   refine R8 ?_
   exact D4 rfl (A8 rfl AV7)
  intro h9
  have k9 := D5 h9; try simp only [A5] at k9
  refine R6 ?_
  refine A6 (A0 rfl) ?_ ?_
  ·intro h20
   have k20 := D1 h20; try simp only [A5] at k20
   refine R1 ?_
   refine A6 (A0 rfl) ?_ ?_
   ·intro h20
    have k20 := D1 h20; try simp only [A5] at k20
    refine R4 ?_
    refine A4 rfl (AG9 rfl (A0 rfl) (L5 (l := []) rfl)) ?_
    refine R3 ?_
    refine L4 rfl (fun hc => B2 rfl Tryz.call30 rfl (M9 _ _ _) (A1 (B1 rfl hc) (A1 D8 (A1 D8 A7)))) ?_
    refine R4 ?_
    exact D4 rfl (A8 rfl AV7)
   intro h20
   have k20 := D5 h20; try simp only [A5] at k20
   refine R19 ?_
   refine L4 rfl (fun hc => AG9 rfl (B1 rfl hc) (L5 (l := []) rfl)) ?_
   refine R9 ?_
   exact D4 rfl (A8 rfl AV7)
  intro h20
  have k20 := D5 h20; try simp only [A5] at k20
  refine R4 ?_
  refine A6 (A0 rfl) ?_ ?_
  ·intro h20
   have k20 := D1 h20; try simp only [A5] at k20
   refine R4 ?_
   refine A4 rfl (AG9 rfl (A0 rfl) (L5 (l := []) rfl)) ?_
   refine R3 ?_
   refine L4 rfl (fun hc => B2 rfl Tryz.call30 rfl (M9 _ _ _) (A1 (B1 rfl hc) (A1 D8 (A1 D8 A7)))) ?_
   refine R4 ?_
   exact D4 rfl (A8 rfl AV7)
  intro h20
  have k20 := D5 h20; try simp only [A5] at k20
  refine R19 ?_
  refine L4 rfl (fun hc => AG9 rfl (B1 rfl hc) (L5 (l := []) rfl)) ?_
  refine R9 ?_
  exact D4 rfl (A8 rfl AV7)
 intro h9
 have k9 := D5 h9; try simp only [A5] at k9
 refine R4 ?_
 refine A6 (A0 rfl) ?_ ?_
 ·intro h9
  have k9 := D1 h9; try simp only [A5] at k9
  refine R4 ?_
  refine A4 rfl (B2 rfl Tryz.call100 rfl (AU1 _ qz8) (A1 (A0 rfl) A7)) ?_
  refine R8 ?_
  exact D4 rfl (A8 rfl AV7)
 intro h9
 have k9 := D5 h9; try simp only [A5] at k9
 refine R6 ?_
 refine A6 (A0 rfl) ?_ ?_
 ·intro h20
  have k20 := D1 h20; try simp only [A5] at k20
  refine R1 ?_
  refine A6 (A0 rfl) ?_ ?_
  ·intro h20
   have k20 := D1 h20; try simp only [A5] at k20
   refine R4 ?_
   refine A4 rfl (AG9 rfl (A0 rfl) (L5 (l := []) rfl)) ?_
   refine R3 ?_
   refine L4 rfl (fun hc => B2 rfl Tryz.call30 rfl (M9 _ _ _) (A1 (B1 rfl hc) (A1 D8 (A1 D8 A7)))) ?_
   refine R4 ?_
   exact D4 rfl (A8 rfl AV7)
  intro h20
  have k20 := D5 h20; try simp only [A5] at k20
  refine R19 ?_
  refine L4 rfl (fun hc => AG9 rfl (B1 rfl hc) (L5 (l := []) rfl)) ?_
  refine R9 ?_
  exact D4 rfl (A8 rfl AV7)
 intro h20
 have k20 := D5 h20; try simp only [A5] at k20
 refine R4 ?_
 refine A6 (A0 rfl) ?_ ?_
 ·intro h20
  have k20 := D1 h20; try simp only [A5] at k20
  refine R4 ?_
  refine A4 rfl (AG9 rfl (A0 rfl) (L5 (l := []) rfl)) ?_
  refine R3 ?_
  refine L4 rfl (fun hc => B2 rfl Tryz.call30 rfl (M9 _ _ _) (A1 (B1 rfl hc) (A1 D8 (A1 D8 A7)))) ?_
  refine R4 ?_
  exact D4 rfl (A8 rfl AV7)
 intro h20
 have k20 := D5 h20; try simp only [A5] at k20
 refine R19 ?_
 refine L4 rfl (fun hc => AG9 rfl (B1 rfl hc) (L5 (l := []) rfl)) ?_
 refine R9 ?_
 exact D4 rfl (A8 rfl AV7)
theorem Bk5 (l : List TOp) (hs : sizeL TOp.size l ≤ 1048576) : B9 Tryz.prog 161 [AV.list 4 (l.map TOp.cs)] (AV.bool (l5Good l)) := by
 refine B7 Tryz.func161 rfl Tryz.ntmps161 rfl ?_
 refine S1 (t := 0) rfl fun hl => ?_
 try simp only [A5] at hl
 refine R12 ?_
 refine E2 [(0, _), (5, _), (6, _)] _ (fun (i : Nat) => i ≤ l.length ∧ l.all l5Op = (l.drop i).all l5Op) (fun (i : Nat) => []) (fun (i : Nat) => [(7, AV.int i)]) (fun (i : Nat) => l.length - i) (0) ?_ (E7 ⟨rfl, rfl, rfl, rfl, trivial⟩) ?_
 ·exact ⟨Nat.zero_le _, rfl⟩
 intro i hinv
 refine R5 ?_
 refine A6 (A0 rfl) ?_ ?_
 ·intro h8
  have k8 := of_decide_eq_true h8; try simp only [A5] at k8
  have hlt : i < l.length := by omega
  obtain ⟨x, hx⟩ := get_some hlt
  have hsx : x.size ≤ 1048576 := Nat.le_trans (W4 hx) hs
  refine R5 ?_
  refine A4 rfl (C7 rfl P3 S7 (A0 rfl) (A0 rfl) hx qz3) ?_
  refine R2 ?_
  intro b4
  refine R5 ?_
  refine A4 rfl (B2 rfl Tryz.call176 rfl (CC5 _ Y0) (A1 (A0 rfl) A7)) ?_
  refine R2 ?_
  refine A6 (A0 rfl) ?_ ?_
  ·intro h13
   have hno : l5Good l = false := by (unfold l5Good; rw [hinv.2, drop_some hx, List.all_cons]; simp_all)
   rw [hno]
   refine R5 ?_
   exact D4 rfl (A8 rfl (by first | rfl | exact congrArg AV.bool (by unfold l5Good; rw [hall]; simp)))
  intro h13
  refine R5 ?_
  refine E9 i (i + 1) ?_ ?_ (O4 1 ⟨rfl, rfl, rfl, rfl, trivial⟩)
  ·exact ⟨by omega, by rw [hinv.2, drop_some hx, List.all_cons]; simp_all⟩
  omega
 intro h8
 have k8 := of_decide_eq_false h8; try simp only [A5] at k8
 have hge : l.length ≤ i := by omega
 have hall : l.all l5Op = true := by (rw [hinv.2, List.drop_eq_nil_of_le hge]; rfl)
 refine R9 ?_
 exact D4 rfl (A8 rfl (by first | rfl | exact congrArg AV.bool (by unfold l5Good; rw [hall]; simp)))
end Go.Proofs.YtcfkbhnpfjjmjaaGreat
namespace Go.M
open Go.AV
theorem getD_row {l : List Str} {i : Nat} (h : i < l.length) : (l.map fun s => [AV.str s])[((i : Nat) : Int).toNat]? = some [AV.str (l.getD i [])] := by
  rw [Int.toNat_natCast, List.getElem?_map, List.getElem?_eq_getElem h, Option.map_some, List.getD_eq_getElem?_getD, List.getElem?_eq_getElem h]; rfl
theorem Bk6 {l : List Str} {i : Nat} (h : i < l.length) : l[i]? = some (l.getD i []) := by
  rw [List.getElem?_eq_getElem h, List.getD_eq_getElem?_getD, List.getElem?_eq_getElem h]; rfl
theorem BW9 {l : List Str} {k : Str} {i : Nat} (hi : i ≤ partW l k) (h : (decide ((i : Int) < (l.length : Int)) && leS (l.getD i []) k) = true) : i < l.length ∧ i + 1 ≤ partW l k := by
  simp only [Bool.and_eq_true, decide_eq_true_eq] at h
  have hl : i < l.length := by omega
  refine ⟨hl, ?_⟩
  rcases Nat.lt_or_ge i (partW l k) with h1 | h1
  · exact h1
  · have := (BD0 (k := k) (Bk6 hl)).2 qz8
    rw [h.2] at this; cases this
theorem CK0 {l : List Str} {k : Str} {i : Nat} (hi : i ≤ partW l k) (h : (decide ((i : Int) < (l.length : Int)) && leS (l.getD i []) k) = false) : i = partW l k := by
  have hle := Ak4 l k
  rcases Nat.lt_or_ge i (partW l k) with h1 | h1
  · have hl : i < l.length := by omega
    rw [(BD0 (k := k) (Bk6 hl)).1 h1, decide_eq_true qz8] at h; cases h
  · omega
end Go.M
namespace Go.Proofs.YtcfkbhnpfjjmjaaGreat
open Go Go.AV Go.M
attribute [local irreducible] OpW OpA OpS AWP B9 J2 C9 OpE RetOk H0 I6 Le Ev F1 J8 V9 Int.tmod Int.tdiv IntKind.wrap bandI
theorem Bk7 (l : List Str) (hs : ∀ k ∈ l, k.length ≤ 4611686018427387904) : B9 Tryz.prog 160 [strs l] (AV.bool (l15Cuts l)) := by
 refine B7 Tryz.func160 rfl Tryz.ntmps160 rfl ?_
 refine S1 (t := 0) rfl fun hl => ?_
 try simp only [A5] at hl
 refine R12 ?_
 refine E2 [(0, _), (5, _), (6, _)] _ (fun (i : Nat) => i ≤ l.length ∧ (l.all l3Key && adj Op.bytesLess l) = ((l.drop i).all l3Key && adj Op.bytesLess (l.drop (i - 1)))) (fun (i : Nat) => []) (fun (i : Nat) => [(7, AV.int i)]) (fun (i : Nat) => l.length - i) (0) ?_ (E7 ⟨rfl, rfl, rfl, rfl, trivial⟩) ?_
 ·exact ⟨Nat.zero_le _, rfl⟩
 intro i hinv
 refine R5 ?_
 refine A6 (A0 rfl) ?_ ?_
 ·intro h8
  have k8 := of_decide_eq_true h8; try simp only [A5] at k8
  have hlt : i < l.length := by omega
  obtain ⟨x, hx⟩ := get_some hlt
  obtain ⟨y, hy⟩ := get_some (show i - 1 < l.length by omega)
  have hsx := hs x (C4 hx)
  refine R6 ?_
  refine A4 rfl (t3 rfl F9 K3 (A0 rfl) (A0 rfl) qz8 Bc8) ?_
  refine R7 ?_
  refine A4 rfl (B2 rfl Tryz.call99 rfl (AA0 _ qz8) (A1 (A0 rfl) A7)) ?_
  refine R8 ?_
  refine c7 rfl rfl (U6 rfl rfl rfl) (fun hc => t3 rfl F9 K3 (B1 rfl hc) (B1 rfl hc) qz181 qz89) ?_
  refine R2 ?_
  refine c7 rfl rfl (U6 rfl rfl rfl) (fun hc => An7 rfl (B1 rfl hc) (B1 rfl hc)) ?_
  refine R3 ?_
  refine A6 (A0 rfl) ?_ ?_
  ·intro h27
   have hfin : (l.all l3Key && adj Op.bytesLess l) = false := by rw [hinv.2, drop_some hx, List.all_cons]; cases hg : l3Key x with | false => simp | true => (simp only [hg, Bool.not_true, Bool.false_or, Bool.and_eq_true, decide_eq_true_eq, Bool.not_eq_true'] at h27; rw [AJ1 hx hy qz8 h27.2]; simp)
   refine R5 ?_
   exact D4 rfl (A8 rfl qz128)
  intro h27
  refine R5 ?_
  refine E9 i (i + 1) ?_ ?_ (E7 ⟨rfl, rfl, rfl, rfl, trivial⟩)
  ·exact ⟨by omega, by rw [hinv.2, drop_some hx, List.all_cons, AJ0 hx hy (fun h0 => by simp_all), show l3Key x = true by simp_all]; simp⟩
  omega
 intro h8
 have k8 := of_decide_eq_false h8; try simp only [A5] at k8
 have hge : l.length ≤ i := by omega
 refine R9 ?_
 exact D4 rfl (A8 rfl qz128)
theorem AE2 (l : List Str) (k : Str) : B9 Tryz.prog 170 [strs l, AV.str k] (AV.int (partW l k)) := by
 refine B7 Tryz.func170 rfl Tryz.ntmps170 rfl ?_
 refine S1 (t := 0) rfl fun hl => ?_
 try simp only [A5] at hl
 refine R10 ?_
 have hle := Ak4 l k
 refine E2 [(0, _), (1, _), (4, _)] _ (fun (i : Nat) => i ≤ partW l k) (fun (i : Nat) => []) (fun (i : Nat) => [(5, AV.int i)]) (fun (i : Nat) => l.length - i) (0) ?_ (E7 ⟨rfl, rfl, rfl, rfl, trivial⟩) ?_
 ·exact Nat.zero_le _
 intro i hinv
 refine R10 ?_
 refine L4 rfl (fun hc => t3 rfl F9 K3 (B1 rfl hc) (B1 rfl hc) qz8 (getD_row (by have h9 := of_decide_eq_true hc; simp only [A5] at h9; omega))) ?_
 refine R2 ?_
 refine L4 rfl (fun hc => w_sleq rfl (B1 rfl hc) (B1 rfl hc)) ?_
 refine R2 ?_
 refine A6 (A0 rfl) ?_ ?_
 ·intro h17
  have h17m : (decide ((i : Int) < (l.length : Int)) && leS (l.getD i []) k) = true := by (have h9 := h17; rw [A5] at h9; exact h9)
  have hlt := (BW9 hinv h17m).1
  refine R7 ?_
  refine AA9 ?_
  refine E9 i (i + 1) ?_ ?_ (E7 ⟨rfl, rfl, rfl, rfl, trivial⟩)
  ·exact (BW9 hinv h17m).2
  omega
 intro h17
 have h17m : (decide ((i : Int) < (l.length : Int)) && leS (l.getD i []) k) = false := by (have h9 := h17; rw [A5] at h9; exact h9)
 rw [CK0 hinv h17m]
 refine R7 ?_
 exact D4 rfl (A8 rfl B0)
end Go.Proofs.YtcfkbhnpfjjmjaaGreat
namespace Go.M
open Go.AV
def putIb : List Int → Int → List Int
  | [], n => [n]
  | x :: l, n => if x < n then x :: putIb l n else if x = n then x :: l else n :: x :: l
theorem BX0 {l : List Int} {n x : Int} : x ∈ putIb l n ↔ x = n ∨ x ∈ l := by
  induction l with
  | nil => simp [putIb]
  | cons y l ih =>
    unfold putIb
    split
    · simp only [List.mem_cons, ih]; constructor <;> rintro (h | h | h) <;> simp [h]
    · split
      · rename_i h; subst h; simp
      · simp
theorem Bk8 {l : List Int} {n : Int} (h : l.Pairwise (· < ·)) : (putIb l n).Pairwise (· < ·) := by
  induction l with
  | nil => simp [putIb]
  | cons y l ih =>
    obtain ⟨h1, h2⟩ := List.pairwise_cons.1 h
    unfold putIb
    split
    · rename_i hy
      refine List.pairwise_cons.2 ⟨fun z hz => ?_, ih h2⟩
      rcases BX0.1 hz with rfl | hz
      · exact hy
      · exact h1 z hz
    · split
      · exact h
      · rename_i h3 h4
        refine List.pairwise_cons.2 ⟨fun z hz => ?_, h⟩
        rcases List.mem_cons.1 hz with rfl | hz
        · omega
        · have := h1 z hz; omega
def partsL (cuts ks : List Str) : List Int := ks.foldl (fun a k => putIb a (partW cuts k)) []
theorem Ad1 {cuts : List Str} : ∀ {ks : List Str} {a : List Int}, a.Pairwise (· < ·) → (ks.foldl (fun a k => putIb a (partW cuts k)) a).Pairwise (· < ·) ∧ ∀ z, z ∈ ks.foldl (fun a k => putIb a (partW cuts k)) a ↔ z ∈ a ∨ ∃ k ∈ ks, z = (partW cuts k : Int)
  | [], a, h => ⟨h, fun z => by simp⟩
  | k :: ks, a, h => by
    obtain ⟨h1, h2⟩ := Ad1 (cuts := cuts) (ks := ks) (Bk8 (n := (partW cuts k : Int)) h)
    refine ⟨h1, fun z => ?_⟩
    show z ∈ ks.foldl (fun a k => putIb a (partW cuts k)) (putIb a (partW cuts k)) ↔ _
    rw [h2, BX0]
    simp only [List.mem_cons, exists_eq_or_imp]
    constructor
    · rintro ((h | h) | h)
      · exact .inr (.inl h)
      · exact .inl h
      · exact .inr (.inr h)
    · rintro (h | h | h)
      · exact .inl (.inr h)
      · exact .inl (.inl h)
      · exact .inr h
def orderR (o : AH7) : Bool := goodRec ⟨1, o.Txn, 1, 0, o.Reads, o.Writes, false⟩
theorem BI8 {n : Int} : ∀ {l : List Int} {i : Nat}, (∀ j x, j < i → l[j]? = some x → x < n) → i ≤ l.length → (∀ x, l[i]? = some x → ¬ x < n) →
    (∀ x, l[i]? = some x → x = n → putIb l n = l) ∧ ((∀ x, l[i]? = some x → x ≠ n) → putIb l n = l.take i ++ n :: l.drop i)
  | [], i, _, hi, _ => by simp at hi; subst hi; exact ⟨fun x hx => by simp at hx, fun _ => rfl⟩
  | y :: l, 0, _, _, h2 => by
    have h := h2 y rfl
    unfold putIb
    rw [if_neg h]
    refine ⟨fun x hx hn => ?_, fun hn => ?_⟩
    · simp at hx; subst hx; rw [if_pos hn]
    · rw [if_neg (hn y rfl)]; rfl
  | y :: l, i + 1, h1, hi, h2 => by
    have hy := h1 0 y qz8 rfl
    obtain ⟨k1, k2⟩ := BI8 (n := n) (l := l) (i := i) (fun j x hj hx => h1 (j + 1) x qz8 y8) (by simpa using hi) (fun x hx => h2 x y8)
    unfold putIb
    rw [if_pos hy]
    refine ⟨fun x hx hn => by rw [k1 x y8 hn], fun hn => by rw [k2 fun x hx => hn x y8]; rfl⟩
theorem CK1 (l : List Int) (n : Int) : (putIb l n).length ≤ l.length + 1 := by
  induction l with
  | nil => simp [putIb]
  | cons y l ih =>
    unfold putIb
    split
    · rw [H4, H4]; omega
    · split <;> simp
end Go.M
namespace Go.Proofs.YtcfkbhnpfjjmjaaGreat
open Go Go.AV Go.M
attribute [local irreducible] OpW OpA OpS AWP B9 J2 C9 OpE RetOk H0 I6 Le Ev F1 J8
theorem CC6 (l : List Int) (n : Int) (hl : l.length ≤ 4194303) : B9 Tryz.prog 169 [ints l, AV.int n] (ints (putIb l n)) := by
 refine B7 Tryz.func169 rfl Tryz.ntmps169 rfl ?_
 refine R2 ?_
 refine A4 rfl (D6 rfl (O6 (sz := 1))) ?_
 refine R7 ?_
 refine E2 [(0, _), (1, _), (4, _)] _ (fun (i : Nat) => i ≤ l.length ∧ ∀ j x, j < i → l[j]? = some x → x < n) (fun (i : Nat) => []) (fun (i : Nat) => [(5, AV.int i)]) (fun (i : Nat) => l.length - i) (0) ?_ (E7 ⟨rfl, rfl, rfl, rfl, trivial⟩) ?_
 ·exact ⟨Nat.zero_le _, fun j x h => by omega⟩
 intro i hinv
 obtain ⟨x, hx⟩ := AB6 l i
 have hx0 : i < l.length → l[i]? = some x := hx
 refine R10 ?_
 refine L4 rfl (fun hc => C7 rfl B4 B6 (B1 rfl hc) (B1 rfl hc) (hx qz5) qz5) ?_
 refine R5 ?_
 refine A6 (A0 rfl) ?_ ?_
 ·intro h18
  have hb : i < l.length ∧ x < n := by simpa using h18
  refine R7 ?_
  refine AA9 ?_
  refine E9 i (i + 1) ?_ ?_ (E7 ⟨rfl, rfl, rfl, rfl, trivial⟩)
  ·exact ⟨by omega, fun j y hj hy => (Nat.lt_or_ge j i).elim (fun h => hinv.2 j y h hy) (fun h => by (obtain rfl : j = i := by omega); rw [hx0 hb.1] at hy; injection hy with hy; omega)⟩
  omega
 intro h18
 have hb : i < l.length → ¬ x < n := fun h => by simpa [h] using h18
 obtain ⟨hs1, hs2⟩ := BI8 hinv.2 hinv.1 (fun z hz => by (have hzl := (List.getElem?_eq_some_iff.1 hz).1; rw [hx0 hzl] at hz; injection hz with hz; subst hz; exact hb hzl))
 refine R11 ?_
 refine L4 rfl (fun hc => C7 rfl B4 B6 (B1 rfl hc) (B1 rfl hc) (hx qz5) qz5) ?_
 refine R5 ?_
 refine A6 (A0 rfl) ?_ ?_
 ·intro h32
  have hc : i < l.length ∧ x = n := by simpa using h32
  have he := hs1 x (hx0 hc.1) hc.2
  rw [he]
  refine R6 ?_
  exact D4 rfl (A8 rfl qz75)
 intro h32
 have hc : i < l.length → x ≠ n := fun h => by simpa [h] using h32
 have he := hs2 (fun z hz => by (have hzl := (List.getElem?_eq_some_iff.1 hz).1; rw [hx0 hzl] at hz; injection hz with hz; subst hz; exact hc hzl))
 rw [he]
 refine R3 ?_
 refine N3 rfl rfl rfl rfl B4 B6 ?_
 intro v34
 refine R2 ?_
 refine A4 rfl (i6 rfl B4 B6 (A0 rfl) (A0 rfl) qz3 qz3) ?_
 refine F6 (by' := 8) 0 rfl rfl rfl rfl B4 Tryz.type3 rfl rfl rfl rfl rfl rfl (A0 rfl) (A0 rfl) rfl (by simp only [A5, G9, M6]; omega) ?_
 intro v38_1
 refine R7 ?_
 refine F6 (by' := 8) 0 rfl rfl rfl rfl B4 Tryz.type3 rfl rfl rfl rfl rfl rfl (A0 rfl) (A0 rfl) rfl An4 ?_
 intro v42_2
 refine R7 ?_
 refine A4 rfl (AK2 rfl B4 B6 (A0 rfl) (A0 rfl) qz3 qz3) ?_
 refine F6 (by' := 8) 0 rfl rfl rfl rfl B4 Tryz.type3 rfl rfl rfl rfl rfl rfl (A0 rfl) (A0 rfl) rfl An4 ?_
 intro v47_3
 refine R3 ?_
 refine AD1 0 4 rfl rfl ?_
 exact D4 rfl (A8 rfl qz75)
end Go.Proofs.YtcfkbhnpfjjmjaaGreat
namespace Go.M
open Go.AV
theorem Br8 {l ks : List Str} {i : Nat} {k : Str} (h : ks[i]? = some k) : partsL l (ks.take (i + 1)) = putIb (partsL l (ks.take i)) (partW l k) := by
  unfold partsL
  rw [List.take_add_one, h, List.foldl_append]; rfl
theorem BI9 (l : List Str) : ∀ (ks : List Str), (partsL l ks).length ≤ ks.length := by
  have key : ∀ (ks : List Str) (a : List Int), (ks.foldl (fun a k => putIb a (partW l k)) a).length ≤ a.length + ks.length := by
    intro ks
    induction ks with
    | nil => intro a; exact Nat.le_refl _
    | cons k ks ih =>
      intro a
      have h1 := ih (putIb a (partW l k))
      have h2 := CK1 a (partW l k)
      rw [List.foldl_cons, H4]; omega
  intro ks
  have := key ks []
  unfold partsL; simpa using this
end Go.M
namespace Go.Proofs.YtcfkbhnpfjjmjaaGreat
open Go Go.AV Go.M
attribute [local irreducible] OpW OpA OpS AWP B9 J2 C9 OpE RetOk H0 I6 Le Ev F1 J8 V9
theorem Am3 (r : List Str) (w : List A9) (hr : r.length ≤ 400000) (hw : w.length ≤ 400000) : B9 Tryz.prog 150 [strs r, AV.list 3 (w.map A9.cs)] (strs (keysI (r ++ O8 w))) := by
  rw [BT8]
  exact K2 (Bi2 r w hr hw) fun v _ => J5 (List.mem_singleton.2 rfl) F4
theorem Am4 (l ks : List Str) (hk : ks.length ≤ 1000000) : B9 Tryz.prog 149 [strs l, strs ks] (ints (partsL l ks)) := by
 refine B7 Tryz.func149 rfl Tryz.ntmps149 rfl ?_
 refine R2 ?_
 refine A4 rfl (D6 rfl (O6 (sz := 1))) ?_
 refine R3 ?_
 refine A4 rfl (D6 rfl (O6 (sz := 1))) ?_
 refine R9 ?_
 refine E2 [(0, _), (4, _), (8, _), (9, _)] _ (fun (i : Nat) => i ≤ ks.length) (fun (i : Nat) => []) (fun (i : Nat) => [(5, ints (partsL l (ks.take i))), (10, AV.int i)]) (fun (i : Nat) => ks.length - i) (0) ?_ (E7 ⟨rfl, rfl, rfl, rfl, rfl, rfl, trivial⟩) ?_
 ·exact Nat.zero_le _
 intro i hinv
 refine R5 ?_
 refine A6 (A0 rfl) ?_ ?_
 ·intro h11
  have k11 := of_decide_eq_true h11; try simp only [A5] at k11
  have hlt : i < ks.length := by omega
  obtain ⟨x, hx⟩ := get_some hlt
  have hle := BI9 l (ks.take i)
  rw [G9] at hle
  refine R5 ?_
  refine A4 rfl (C7 rfl F9 K3 (A0 rfl) (A0 rfl) hx qz3) ?_
  refine R7 ?_
  refine A4 rfl (B2 rfl Tryz.call170 rfl (AE2 _ _) (A1 (A0 rfl) (A1 (A0 rfl) A7))) ?_
  refine A4 rfl (B2 rfl Tryz.call169 rfl (CC6 _ _ qz8) (A1 (A0 rfl) (A1 (A0 rfl) A7))) ?_
  refine R6 ?_
  refine E9 i (i + 1) ?_ ?_ (E7 ⟨(congrArg (fun z => some (ints z)) (Br8 hx).symm), rfl, rfl, rfl, rfl, rfl, trivial⟩)
  ·exact qz8
  omega
 intro h11
 have k11 := of_decide_eq_false h11; try simp only [A5] at k11
 have hge : ks.length ≤ i := by omega
 rw [List.take_of_length_le hge]
 refine R7 ?_
 exact D4 rfl (A8 rfl B0)
end Go.Proofs.YtcfkbhnpfjjmjaaGreat
namespace Go.M
open Go.AV
end Go.M
namespace Go.Proofs.YtcfkbhnpfjjmjaaGreat
open Go Go.AV Go.M
attribute [local irreducible] OpW OpA OpS AWP B9 J2 C9 OpE RetOk H0 I6 Le Ev F1 J8 V9 Int.tmod IntKind.wrap bandI
end Go.Proofs.YtcfkbhnpfjjmjaaGreat
namespace Go.M
open Go.AV
end Go.M
namespace Go.Proofs.YtcfkbhnpfjjmjaaGreat
open Go Go.AV Go.M
attribute [local irreducible] OpW OpA OpS AWP B9 J2 C9 OpE RetOk H0 I6 Le Ev F1 J8 V9 Int.tmod IntKind.wrap bandI
end Go.Proofs.YtcfkbhnpfjjmjaaGreat
namespace Go.M
open Go.AV
end Go.M
namespace Go.Proofs.YtcfkbhnpfjjmjaaGreat
open Go Go.AV Go.M
attribute [local irreducible] OpW OpA OpS AWP B9 J2 C9 OpE RetOk H0 I6 Le Ev F1 J8 V9 Int.tmod IntKind.wrap bandI
end Go.Proofs.YtcfkbhnpfjjmjaaGreat
namespace Go.M
open Go.AV
end Go.M
namespace Go.Proofs.YtcfkbhnpfjjmjaaGreat
open Go Go.AV Go.M
attribute [local irreducible] OpW OpA OpS AWP B9 J2 C9 OpE RetOk H0 I6 Le Ev F1 J8 V9 Int.tmod IntKind.wrap bandI
end Go.Proofs.YtcfkbhnpfjjmjaaGreat
namespace Go.Proofs.YtcfkbhnpfjjmjaaGreat
open Go Go.AV Go.M
attribute [local irreducible] OpW OpA OpS AWP B9 J2 C9 OpE RetOk H0 I6 Le Ev F1 J8 Int.tmod IntKind.wrap bandI
theorem BJ0 (b : Nat) (code : List Int) (hcode : Z2 code) (c : N6) (l : List Str) (hl : 1 ≤ l.length ∧ l.length ≤ 1000) (hp : c.p ≤ 7000000) : C9 Tryz.prog 133 [AV.ptr b 0, strs l] [.box b 55 (S0 code c)] (fun x : N6 × Str => x.1.p ≤ c.p + 2 ∧ x.2 ∈ l) (fun x => [.box b 55 (S0 code x.1)]) (fun x => AV.str x.2) := by
  obtain ⟨hl1, hl2⟩ := hl
  refine C6 Tryz.func133 rfl Tryz.ntmps133 rfl ?_
  refine R2 ?_
  refine A4 rfl (D6 rfl (L5 (l := []) rfl)) ?_
  refine R7 ?_
  refine F0 [0] rfl rfl rfl rfl Tryz.call22 rfl (L0 _ _ hcode _ _ f6 qz8) (A1 (A0 rfl) (A1 (A0 rfl) A7)) rfl ?_
  intro x9 ok9
  simp only [A5] at ok9
  obtain ⟨y, hy⟩ := get_some (show x9.2.toNat < l.length by omega)
  refine A4 rfl (C7 rfl F9 K3 (A0 rfl) (A0 rfl) hy qz8) ?_
  refine R4 ?_
  (refine I0 [0] ((_, _)) ?_ rfl V7 (E4 rfl (A8 rfl B0)); exact ⟨ok9.1, C4 hy⟩)
theorem Az0 (b : Nat) (code : List Int) (hcode : Z2 code) (c : N6) (hp : c.p ≤ 6000000) : C9 Tryz.prog 155 [AV.ptr b 0] [.box b 55 (S0 code c)] (fun x : N6 × Str => x.1.p ≤ c.p + 2 ∧ x.2 ∈ keyD) (fun x => [.box b 55 (S0 code x.1)]) (fun x => AV.str x.2) := by
  refine C6 Tryz.func155 rfl Tryz.ntmps155 rfl ?_
  refine R2 ?_
  refine A4 rfl (D6 rfl (L5 (l := []) rfl)) ?_
  refine R4 ?_
  refine A4 rfl (AI6 rfl F9 K3 Tryz.zeroValue9 rfl rfl rfl rfl (D7 (L5 (l := [97]) rfl) (U8 _) (D7 (L5 (l := [98]) rfl) (U8 _) (D7 (L5 (l := [99]) rfl) (U8 _) (D7 (L5 (l := [109]) rfl) (U8 _) (D7 (L5 (l := [110]) rfl) (U8 _) (D7 (L5 (l := [122]) rfl) (U8 _) (D7 (L5 (l := [114, 47, 49]) rfl) (U8 _) (D7 (L5 (l := [105, 47, 120, 47, 49]) rfl) (U8 _) T7)))))))) rfl rfl) ?_
  refine F0 [0] rfl rfl rfl rfl Tryz.call133 rfl (BJ0 _ _ hcode _ keyD D3 qz8) (A1 (A0 rfl) (A1 (A0 rfl) A7)) rfl ?_
  intro x5 ok5
  refine R3 ?_
  (refine I0 [0] ((_, _)) ?_ rfl V7 (E4 rfl (A8 rfl B0)); exact ok5)
theorem Az1 (b : Nat) (code : List Int) (hcode : Z2 code) (c : N6) (hp : c.p ≤ 6000000) : C9 Tryz.prog 107 [AV.ptr b 0] [.box b 55 (S0 code c)] (fun x : N6 × Str => x.1.p ≤ c.p + 2 ∧ x.2 ∈ valD) (fun x => [.box b 55 (S0 code x.1)]) (fun x => AV.str x.2) := by
  refine C6 Tryz.func107 rfl Tryz.ntmps107 rfl ?_
  refine R2 ?_
  refine A4 rfl (D6 rfl (L5 (l := []) rfl)) ?_
  refine R4 ?_
  refine A4 rfl (AI6 rfl F9 K3 Tryz.zeroValue9 rfl rfl rfl rfl (D7 (L5 (l := []) rfl) (U8 _) (D7 (L5 (l := [49]) rfl) (U8 _) (D7 (L5 (l := [55]) rfl) (U8 _) (D7 (L5 (l := [49, 48]) rfl) (U8 _) (D7 (L5 (l := [45, 51]) rfl) (U8 _) (D7 (L5 (l := [120]) rfl) (U8 _) (D7 (L5 (l := [97, 44, 98, 95, 99]) rfl) (U8 _) T7))))))) rfl rfl) ?_
  refine F0 [0] rfl rfl rfl rfl Tryz.call133 rfl (BJ0 _ _ hcode _ valD D3 qz8) (A1 (A0 rfl) (A1 (A0 rfl) A7)) rfl ?_
  intro x5 ok5
  refine R3 ?_
  (refine I0 [0] ((_, _)) ?_ rfl V7 (E4 rfl (A8 rfl B0)); exact ok5)
end Go.Proofs.YtcfkbhnpfjjmjaaGreat
namespace Go.M
open Go.AV
def OpD (o : TOp) : Prop := isOp o = true ∧ o.Key ∈ keyD ∧ o.size ≤ 64
theorem valD_gv {v : Str} (h : v ∈ valD) : goodVal v = true ∧ v.length ≤ 10 := by
  have : ∀ v ∈ valD, goodVal v = true ∧ v.length ≤ 10 := by decide
  exact this v h
theorem AB9 {K : Int} {k v : Str} (h1 : 1 ≤ K ∧ K ≤ 7) (hv : AG4 K = true) (hk : k ∈ keyD) (h : v ∈ valD) : OpD ⟨K, k, v, 0⟩ := by
  obtain ⟨k1, k2⟩ := r5 hk
  obtain ⟨v1, v2⟩ := valD_gv h
  refine ⟨?_, hk, by unfold TOp.size; dsimp only; omega⟩
  unfold isOp within
  dsimp only
  rw [decide_eq_true h1.1, decide_eq_true h1.2, k1, v1, hv]
  cases AN7 K <;> rfl
theorem AE3 {K n : Int} {k : Str} (h1 : 1 ≤ K ∧ K ≤ 7) (hb : AN7 K = true) (hk : k ∈ keyD) (h : -9999 ≤ n ∧ n ≤ 9999) : OpD ⟨K, k, [], n⟩ := by
  obtain ⟨k1, k2⟩ := r5 hk
  refine ⟨?_, hk, by unfold TOp.size; simp only [M6]; omega⟩
  unfold isOp within
  dsimp only
  rw [decide_eq_true h1.1, decide_eq_true h1.2, k1, hb, decide_eq_true h.1, decide_eq_true h.2]
  cases AG4 K <;> rfl
theorem AH6 {K : Int} {k : Str} (h1 : 1 ≤ K ∧ K ≤ 7) (hk : k ∈ keyD) : OpD ⟨K, k, [], 0⟩ := by
  obtain ⟨k1, k2⟩ := r5 hk
  refine ⟨?_, hk, by unfold TOp.size; simp only [M6]; omega⟩
  unfold isOp within
  dsimp only
  rw [decide_eq_true h1.1, decide_eq_true h1.2, k1]
  cases AG4 K <;> cases AN7 K <;> rfl
theorem CK2 {l : List TOp} (hl : l.length ≤ 8) (h : ∀ o ∈ l, OpD o) : goodOps l = true ∧ ∀ o ∈ l, o.Key ∈ keyD := by
  refine ⟨?_, fun o ho => (h o ho).2.1⟩
  unfold goodOps
  rw [decide_eq_true qz8, Bool.true_and, Bool.not_eq_true', List.any_eq_false]
  intro o ho
  rw [(h o ho).1]; decide
end Go.M
namespace Go.Proofs.YtcfkbhnpfjjmjaaGreat
open Go Go.AV Go.M
attribute [local irreducible] OpW OpA OpS AWP B9 J2 C9 OpE RetOk H0 I6 Le Ev F1 J8 Int.tmod Int.tdiv IntKind.wrap bandI
theorem CC7 (b : Nat) (code : List Int) (hcode : Z2 code) (c : N6) (hp : c.p ≤ 5000000) : C9 Tryz.prog 131 [AV.ptr b 0] [.box b 55 (S0 code c)] (fun x : N6 × TOp => x.1.p ≤ c.p + 10 ∧ OpD x.2) (fun x => [.box b 55 (S0 code x.1)]) (fun x => AV.agg x.2.cs) := by
 refine C6 Tryz.func131 rfl Tryz.ntmps131 rfl ?_
 refine R3 ?_
 intro b2
 refine R4 ?_
 refine F0 [1] rfl rfl rfl rfl Tryz.call22 rfl (L0 _ _ hcode _ _ qz8 qz8) (A1 (A0 rfl) (A1 D8 A7)) rfl ?_
 intro x5 ok5
 refine R2 ?_
 refine F0 [0] rfl rfl rfl rfl Tryz.call155 rfl (Az0 _ _ hcode _ qz8) (A1 (A0 rfl) A7) rfl ?_
 intro x8 ok8
 refine R2 ?_
 intro b3
 refine R15 ?_
 refine A6 (A0 rfl) ?_ ?_
 ·intro h12
  have k12 := D1 h12; try simp only [A5] at k12
  refine R1 ?_
  refine A6 (A0 rfl) ?_ ?_
  ·intro h12
   have k12 := D1 h12; try simp only [A5] at k12
   refine R2 ?_
   refine F0 [1] rfl rfl rfl rfl Tryz.call107 rfl (Az1 _ _ hcode _ qz8) (A1 (A0 rfl) A7) rfl ?_
   intro x16 ok16
   refine R9 ?_
   (refine I0 [0] ((x16.1, ⟨1 + x5.2, x8.2, x16.2, 0⟩)) ?_ rfl V7 (E4 rfl (H1 (ys := _) 2 rfl rfl Z8 S7 rfl)); (dsimp only; first | exact ⟨by omega, AB9 ⟨by omega, by omega⟩ Ab4 ok8.2 ok16.2⟩ | exact ⟨by omega, AE3 ⟨by omega, by omega⟩ Ab3 ok8.2 Ab6⟩ | exact ⟨by omega, AH6 ⟨by omega, by omega⟩ ok8.2⟩))
  intro h12
  have k12 := D5 h12; try simp only [A5] at k12
  refine R6 ?_
  refine A6 (A0 rfl) ?_ ?_
  ·intro h18
   have k18 := D1 h18; try simp only [A5] at k18
   refine R1 ?_
   refine A6 (A0 rfl) ?_ ?_
   ·intro h18
    have k18 := D1 h18; try simp only [A5] at k18
    refine R3 ?_
    refine F0 [1] rfl rfl rfl rfl Tryz.call156 rfl (l6 _ _ hcode _ ([(1), (2), (5), (-3), (0), (100)] : List Int) D3 qz8) (A1 (A0 rfl) (A1 (A0 rfl) A7)) rfl ?_
    intro x23 ok23
    refine R9 ?_
    (refine I0 [0] ((x23.1, ⟨1 + x5.2, x8.2, [], x23.2⟩)) ?_ rfl V7 (E4 rfl (H1 (ys := _) 2 rfl rfl Z8 S7 rfl)); (dsimp only; first | exact ⟨by omega, AB9 ⟨by omega, by omega⟩ Ab4 ok8.2 ok16.2⟩ | exact ⟨by omega, AE3 ⟨by omega, by omega⟩ Ab3 ok8.2 Ab6⟩ | exact ⟨by omega, AH6 ⟨by omega, by omega⟩ ok8.2⟩))
   intro h18
   have k18 := D5 h18; try simp only [A5] at k18
   refine R7 ?_
   (refine I0 [1] ((x8.1, ⟨1 + x5.2, x8.2, [], 0⟩)) ?_ rfl V7 (E4 rfl (H1 (ys := _) 2 rfl rfl Z8 S7 rfl)); (dsimp only; first | exact ⟨by omega, AB9 ⟨by omega, by omega⟩ Ab4 ok8.2 ok16.2⟩ | exact ⟨by omega, AE3 ⟨by omega, by omega⟩ Ab3 ok8.2 Ab6⟩ | exact ⟨by omega, AH6 ⟨by omega, by omega⟩ ok8.2⟩))
  intro h18
  have k18 := D5 h18; try simp only [A5] at k18
  refine R4 ?_
  refine A6 (A0 rfl) ?_ ?_
  ·intro h18
   have k18 := D1 h18; try simp only [A5] at k18
   refine R3 ?_
   refine F0 [1] rfl rfl rfl rfl Tryz.call156 rfl (l6 _ _ hcode _ ([(1), (2), (5), (-3), (0), (100)] : List Int) D3 qz8) (A1 (A0 rfl) (A1 (A0 rfl) A7)) rfl ?_
   intro x23 ok23
   refine R9 ?_
   (refine I0 [0] ((x23.1, ⟨1 + x5.2, x8.2, [], x23.2⟩)) ?_ rfl V7 (E4 rfl (H1 (ys := _) 2 rfl rfl Z8 S7 rfl)); (dsimp only; first | exact ⟨by omega, AB9 ⟨by omega, by omega⟩ Ab4 ok8.2 ok16.2⟩ | exact ⟨by omega, AE3 ⟨by omega, by omega⟩ Ab3 ok8.2 Ab6⟩ | exact ⟨by omega, AH6 ⟨by omega, by omega⟩ ok8.2⟩))
  intro h18
  have k18 := D5 h18; try simp only [A5] at k18
  refine R7 ?_
  (refine I0 [1] ((x8.1, ⟨1 + x5.2, x8.2, [], 0⟩)) ?_ rfl V7 (E4 rfl (H1 (ys := _) 2 rfl rfl Z8 S7 rfl)); (dsimp only; first | exact ⟨by omega, AB9 ⟨by omega, by omega⟩ Ab4 ok8.2 ok16.2⟩ | exact ⟨by omega, AE3 ⟨by omega, by omega⟩ Ab3 ok8.2 Ab6⟩ | exact ⟨by omega, AH6 ⟨by omega, by omega⟩ ok8.2⟩))
 intro h12
 have k12 := D5 h12; try simp only [A5] at k12
 refine R4 ?_
 refine A6 (A0 rfl) ?_ ?_
 ·intro h12
  have k12 := D1 h12; try simp only [A5] at k12
  refine R2 ?_
  refine F0 [1] rfl rfl rfl rfl Tryz.call107 rfl (Az1 _ _ hcode _ qz8) (A1 (A0 rfl) A7) rfl ?_
  intro x16 ok16
  refine R9 ?_
  (refine I0 [0] ((x16.1, ⟨1 + x5.2, x8.2, x16.2, 0⟩)) ?_ rfl V7 (E4 rfl (H1 (ys := _) 2 rfl rfl Z8 S7 rfl)); (dsimp only; first | exact ⟨by omega, AB9 ⟨by omega, by omega⟩ Ab4 ok8.2 ok16.2⟩ | exact ⟨by omega, AE3 ⟨by omega, by omega⟩ Ab3 ok8.2 Ab6⟩ | exact ⟨by omega, AH6 ⟨by omega, by omega⟩ ok8.2⟩))
 intro h12
 have k12 := D5 h12; try simp only [A5] at k12
 refine R6 ?_
 refine A6 (A0 rfl) ?_ ?_
 ·intro h18
  have k18 := D1 h18; try simp only [A5] at k18
  refine R1 ?_
  refine A6 (A0 rfl) ?_ ?_
  ·intro h18
   have k18 := D1 h18; try simp only [A5] at k18
   refine R3 ?_
   refine F0 [1] rfl rfl rfl rfl Tryz.call156 rfl (l6 _ _ hcode _ ([(1), (2), (5), (-3), (0), (100)] : List Int) D3 qz8) (A1 (A0 rfl) (A1 (A0 rfl) A7)) rfl ?_
   intro x23 ok23
   refine R9 ?_
   (refine I0 [0] ((x23.1, ⟨1 + x5.2, x8.2, [], x23.2⟩)) ?_ rfl V7 (E4 rfl (H1 (ys := _) 2 rfl rfl Z8 S7 rfl)); (dsimp only; first | exact ⟨by omega, AB9 ⟨by omega, by omega⟩ Ab4 ok8.2 ok16.2⟩ | exact ⟨by omega, AE3 ⟨by omega, by omega⟩ Ab3 ok8.2 Ab6⟩ | exact ⟨by omega, AH6 ⟨by omega, by omega⟩ ok8.2⟩))
  intro h18
  have k18 := D5 h18; try simp only [A5] at k18
  refine R7 ?_
  (refine I0 [1] ((x8.1, ⟨1 + x5.2, x8.2, [], 0⟩)) ?_ rfl V7 (E4 rfl (H1 (ys := _) 2 rfl rfl Z8 S7 rfl)); (dsimp only; first | exact ⟨by omega, AB9 ⟨by omega, by omega⟩ Ab4 ok8.2 ok16.2⟩ | exact ⟨by omega, AE3 ⟨by omega, by omega⟩ Ab3 ok8.2 Ab6⟩ | exact ⟨by omega, AH6 ⟨by omega, by omega⟩ ok8.2⟩))
 intro h18
 have k18 := D5 h18; try simp only [A5] at k18
 refine R4 ?_
 refine A6 (A0 rfl) ?_ ?_
 ·intro h18
  have k18 := D1 h18; try simp only [A5] at k18
  refine R3 ?_
  refine F0 [1] rfl rfl rfl rfl Tryz.call156 rfl (l6 _ _ hcode _ ([(1), (2), (5), (-3), (0), (100)] : List Int) D3 qz8) (A1 (A0 rfl) (A1 (A0 rfl) A7)) rfl ?_
  intro x23 ok23
  refine R9 ?_
  (refine I0 [0] ((x23.1, ⟨1 + x5.2, x8.2, [], x23.2⟩)) ?_ rfl V7 (E4 rfl (H1 (ys := _) 2 rfl rfl Z8 S7 rfl)); (dsimp only; first | exact ⟨by omega, AB9 ⟨by omega, by omega⟩ Ab4 ok8.2 ok16.2⟩ | exact ⟨by omega, AE3 ⟨by omega, by omega⟩ Ab3 ok8.2 Ab6⟩ | exact ⟨by omega, AH6 ⟨by omega, by omega⟩ ok8.2⟩))
 intro h18
 have k18 := D5 h18; try simp only [A5] at k18
 refine R7 ?_
 (refine I0 [1] ((x8.1, ⟨1 + x5.2, x8.2, [], 0⟩)) ?_ rfl V7 (E4 rfl (H1 (ys := _) 2 rfl rfl Z8 S7 rfl)); (dsimp only; first | exact ⟨by omega, AB9 ⟨by omega, by omega⟩ Ab4 ok8.2 ok16.2⟩ | exact ⟨by omega, AE3 ⟨by omega, by omega⟩ Ab3 ok8.2 Ab6⟩ | exact ⟨by omega, AH6 ⟨by omega, by omega⟩ ok8.2⟩))
theorem Az2 (b : Nat) (code : List Int) (hcode : Z2 code) (c : N6) (hp : c.p ≤ 4000000) : C9 Tryz.prog 105 [AV.ptr b 0] [.box b 55 (S0 code c)] (fun x : N6 × List TOp × Value => x.1.p ≤ c.p + 100 ∧ (1 ≤ x.2.1.length ∧ x.2.1.length ≤ 4) ∧ ∀ o ∈ x.2.1, OpD o) (fun x => [.box b 55 (S0 code x.1), .arr x.2.2 156 4 (x.2.1.map TOp.cs)]) (fun x => AV.is x.2.2) := by
 refine C6 Tryz.func105 rfl Tryz.ntmps105 rfl ?_
 refine R2 ?_
 refine A4 rfl (D6 rfl G8) ?_
 refine R3 ?_
 refine P1 156 4 rfl rfl rfl rfl G8 ?_
 intro v3
 refine R5 ?_
 refine F0 [1] rfl rfl rfl rfl Tryz.call22 rfl (L0 _ _ hcode _ _ qz8 qz8) (A1 (A0 rfl) (A1 D8 A7)) rfl ?_
 intro x7 ok7
 obtain ⟨n0, hn0⟩ : ∃ n0 : Nat, x7.2 = n0 := ⟨x7.2.toNat, by omega⟩
 refine R4 ?_
 refine AWP.le (C1 [0, 0] rfl) ?_
 refine s3 [(0, _), (2, _)] _ (fun (n : Nat) (cc : N6) (l : List TOp) (v : Value) => n + l.length = 1 + n0 ∧ cc.p ≤ c.p + 2 + 14 * l.length ∧ ∀ o ∈ l, OpD o) (fun (n : Nat) (cc : N6) (l : List TOp) (v : Value) => [.box b 55 (S0 code cc), .arr v 156 4 (l.map TOp.cs)]) (fun (n : Nat) (cc : N6) (l : List TOp) (v : Value) => [(3, AV.is v), (4, AV.int n)]) (fun (n : Nat) (cc : N6) (l : List TOp) (v : Value) => n) (1 + n0) (x7.1) ([]) (v3) ?_ (H7 B0 ⟨rfl, congrArg (fun z => some (AV.int z)) qz8, rfl, rfl, trivial⟩) ?_
 ·exact ⟨rfl, by simp; omega, fun o h => by cases h⟩
 intro n cc l v hinv
 refine R6 ?_
 refine A6 (A0 rfl) ?_ ?_
 ·intro h10
  have k10 := of_decide_eq_true h10; try simp only [A5] at k10
  have hn1 : 1 ≤ n := by omega
  have hll : l.length ≤ 4 := by omega
  refine R6 ?_
  refine F0 [0] rfl rfl rfl rfl Tryz.call131 rfl (CC7 _ _ hcode _ qz8) (A1 (A0 rfl) A7) rfl ?_
  intro x14 ok14
  refine R1 ?_
  intro b5
  refine R20 ?_
  refine AW4 rfl rfl (O5 rfl rfl rfl) ?_ ?_
  ·intro gh30
   refine F0 [1] rfl rfl rfl rfl Tryz.call53 rfl (AN0 _ _ hcode _ _ qz8 qz8) (A1 (B1 rfl gh30) (A1 D8 A7)) rfl ?_
   intro x30 ok30
   refine R3 ?_
   refine A6 (A0 rfl) ?_ ?_
   ·intro h32
    refine AWP.le (C1 [1, 1, 0] rfl) ?_
    refine M3 _ [(0, false), (1, false), (2, false), (3, true), (4, false)] F2 F2 rfl (O2 2) ?_
    refine R3 ?_
    refine Q0 rfl rfl rfl (O3 [2] rfl Tryz.call22 rfl (L0 _ _ hcode _ _ qz8 qz8) (A1 (A0 rfl) (A1 D8 A7)) rfl) (fun a _ => qz4) ?_
    intro x36 ok36
    refine R9 ?_
    refine F6 (by' := 48) 1 rfl rfl rfl rfl P3 Tryz.type156 rfl rfl rfl rfl rfl rfl (A0 rfl) (A0 rfl) rfl qz3 ?_
    intro v42_1
    refine R7 ?_
    refine Z0 n cc l v (n - 1) (x36.1) (l ++ [⟨4, x14.2.Key, [], 1 + x36.2⟩]) (v42_1) ?_ ?_ (Le.trans (C1 [0, 1, 0] rfl) (E0 1 qz77 ⟨rfl, congrArg (fun z => some (AV.int z)) qz8, rfl, rfl, trivial⟩))
    ·exact ⟨by rw [G3, H4, M6]; omega, by rw [G3, H4, M6]; omega, fun o ho => (List.mem_append.1 ho).elim (hinv.2.2 o) fun e => by (rw [List.mem_singleton.1 e]; exact AE3 ⟨by decide, by decide⟩ rfl ok14.2.2.1 ⟨by omega, by omega⟩)⟩
    omega
   intro h32
   refine R5 ?_
   refine F6 (by' := 48) 2 rfl rfl rfl rfl P3 Tryz.type156 rfl rfl rfl rfl rfl rfl (A0 rfl) (A0 rfl) rfl qz3 ?_
   intro v42_2
   refine R7 ?_
   refine Z0 n cc l v (n - 1) (x30.1) (l ++ [x14.2]) (v42_2) ?_ ?_ (Le.trans (C1 [1, 0, 0] rfl) (E0 1 qz77 ⟨rfl, congrArg (fun z => some (AV.int z)) qz8, rfl, rfl, trivial⟩))
   ·exact ⟨by rw [G3, H4, M6]; omega, by rw [G3, H4, M6]; omega, fun o ho => (List.mem_append.1 ho).elim (hinv.2.2 o) fun e => by rw [List.mem_singleton.1 e]; exact ok14.2⟩
   omega
  intro gh30
  refine AW4 rfl rfl (O5 rfl rfl rfl) (fun hq => by rw [gh30] at hq; cases hq) (fun _ => ?_)
  refine A4 rfl (w_and rfl (A0 rfl) (BO3 (x := AV.bool false) gh30)) ?_
  refine R1 ?_
  refine A6 (A0 rfl) ?_ ?_
  ·intro h32
   refine AWP.le (C1 [0, 1, 0] rfl) ?_
   refine M3 _ [(0, false), (1, false), (2, false), (3, true), (4, false)] F2 F2 rfl (O2 2) ?_
   refine R3 ?_
   refine Q0 rfl rfl rfl (O3 [2] rfl Tryz.call22 rfl (L0 _ _ hcode _ _ qz8 qz8) (A1 (A0 rfl) (A1 D8 A7)) rfl) (fun a _ => qz4) ?_
   intro x36 ok36
   refine R9 ?_
   refine F6 (by' := 48) 1 rfl rfl rfl rfl P3 Tryz.type156 rfl rfl rfl rfl rfl rfl (A0 rfl) (A0 rfl) rfl qz3 ?_
   intro v42_3
   refine R7 ?_
   refine Z0 n cc l v (n - 1) (x14.1) (l ++ [x14.2]) (v42_3) ?_ ?_ (Le.trans (C1 [0, 1, 0] rfl) (E0 1 qz77 ⟨rfl, congrArg (fun z => some (AV.int z)) qz8, rfl, rfl, trivial⟩))
   ·exact ⟨by rw [G3, H4, M6]; omega, by rw [G3, H4, M6]; omega, fun o ho => (List.mem_append.1 ho).elim (hinv.2.2 o) fun e => by rw [List.mem_singleton.1 e]; exact ok14.2⟩
   omega
  intro h32
  refine R5 ?_
  refine F6 (by' := 48) 2 rfl rfl rfl rfl P3 Tryz.type156 rfl rfl rfl rfl rfl rfl (A0 rfl) (A0 rfl) rfl qz3 ?_
  intro v42_4
  refine R7 ?_
  refine Z0 n cc l v (n - 1) (x14.1) (l ++ [x14.2]) (v42_4) ?_ ?_ (Le.trans (C1 [0, 0, 0] rfl) (E0 1 qz77 ⟨rfl, congrArg (fun z => some (AV.int z)) qz8, rfl, rfl, trivial⟩))
  ·exact ⟨by rw [G3, H4, M6]; omega, by rw [G3, H4, M6]; omega, fun o ho => (List.mem_append.1 ho).elim (hinv.2.2 o) fun e => by rw [List.mem_singleton.1 e]; exact ok14.2⟩
  omega
 intro h10
 have k10 := of_decide_eq_false h10; try simp only [A5] at k10
 refine R7 ?_
 (refine I0 [0, 0] ((cc, l, v)) ?_ rfl V7 (E4 rfl (A8 rfl B0)); exact ⟨show cc.p ≤ _ by omega, ⟨show 1 ≤ l.length by omega, show l.length ≤ 4 by omega⟩, hinv.2.2⟩)
end Go.Proofs.YtcfkbhnpfjjmjaaGreat
