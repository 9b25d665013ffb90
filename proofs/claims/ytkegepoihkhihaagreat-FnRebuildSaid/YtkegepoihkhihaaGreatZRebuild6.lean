/- Texts of the claim, part 6. -/
import Derived.Test.YtkegepoihkhihaaGreatZRebuild5

set_option linter.unusedVariables false
set_option linter.unusedSimpArgs false
set_option maxRecDepth 100000
set_option maxHeartbeats 2000000
namespace Go.M
open Go.AV
structure SO (s : TState) : Prop where
  floor : 0 ≤ s.Floor
  cells : CellsOk s.Cells
  hsort : s.Held.Pairwise fun a b => a.Txn < b.Txn
  tsort : s.Told.Pairwise fun a b => a.Txn < b.Txn
  times : ∀ h ∈ s.Held, 1 ≤ h.Time
theorem gs_so {s : TState} (g : GS s) : SO s := ⟨g.floor.1, W9 g.cells, g.hsort, g.tsort, fun h hm => (Aw5 g hm).1⟩
theorem At4 {t : Int} : ∀ {w : List TWrite} {l q : List TCell}, CellsOk l → putAll l w t = some q → CellsOk q
  | [], l, q, h, e => by simp [putAll] at e; subst e; exact h
  | x :: w, l, q, h, e => by
    unfold putAll at e
    split at e
    · cases e
    · exact At4 (e7 h _ _) e
theorem so_apply {s : TState} (g : SO s) {r : TRec} (h : (applyS s r).2 = true) : SO (applyS s r).1 := by
  have h0 := g.floor
  have hless : SO ⟨s.Floor, s.Cells, lessH s.Held r.Txn, s.Told⟩ := ⟨h0, g.cells, g.hsort.sublist List.filter_sublist, g.tsort, fun k hk => g.times k (Ae0.1 hk).1⟩
  unfold applyS at h ⊢
  by_cases h4 : r.Kind = 4
  · rw [if_pos h4] at h ⊢
    have := of_decide_eq_true h
    exact ⟨by dsimp only; omega, g.cells, g.hsort, g.tsort, g.times⟩
  · rw [if_neg h4] at h ⊢
    by_cases hT : hasT s.Told r.Txn = true
    · rw [if_pos hT] at h; cases h
    · rw [if_neg hT] at h ⊢
      rw [Bool.not_eq_true] at hT
      have htn := hasT_not.1 hT
      have htl : (insT ⟨r.Txn, r.Yes, r.Time⟩ s.Told).Pairwise fun a b => a.Txn < b.Txn := Ad9 g.tsort htn
      by_cases h1 : r.Kind = 1
      · rw [if_pos h1] at h ⊢
        simp only [Bool.and_eq_true, Bool.not_eq_true', decide_eq_true_eq] at h
        refine ⟨by dsimp only; omega, g.cells, Ad8 g.hsort (hasH_not.1 h.1.1), g.tsort, fun k hk => ?_⟩
        rcases AT0.1 hk with rfl | hk
        · show 1 ≤ r.Time; omega
        · exact g.times k hk
      · rw [if_neg h1] at h ⊢
        by_cases hy : r.Yes = true
        · rw [if_pos hy] at h ⊢
          cases hf : findH s.Held r.Txn with
          | none => rw [hf] at h; cases h
          | some k =>
            rw [hf] at h
            dsimp only at h ⊢
            by_cases hlt : r.Time < k.Time
            · rw [if_pos hlt] at h; cases h
            · rw [if_neg hlt] at h ⊢
              by_cases hp : (putP s.Cells k.Writes r.Time).2 = true
              · rw [if_pos hp]
                exact ⟨by unfold doneS; dsimp only; split <;> omega, At4 g.cells (As7 hp).1, hless.hsort, htl, hless.times⟩
              · rw [if_neg hp] at h; cases h
        · rw [if_neg hy]
          exact ⟨h0, g.cells, hless.hsort, htl, hless.times⟩
theorem so_step {s : TState} (g : SO s) (r : TRec) : SO (stepS s r) := by
  unfold stepS
  split
  · exact so_apply g ‹_›
  · exact g
theorem Aa6 : SO zState := gs_so gs_zero
theorem AO7 : ∀ {l : List TRec} {s : TState}, SO s → SO (stFrom s l)
  | [], s, g => g
  | r :: l, s, g => by
    show SO (stFrom (stepS s r) l)
    exact AO7 (so_step g r)
theorem AD8 {l : List THeld} {i : Nat} {h : THeld} {n : Int} (hx : l[i]? = some h) : lessH (l.take (i + 1)) n = if (h.Txn != n) = true then lessH (l.take i) n ++ [h] else lessH (l.take i) n := by
  unfold lessH
  rw [List.take_add_one, hx, List.filter_append]
  show _ ++ List.filter _ [h] = _
  split
  · rename_i e; rw [List.filter_cons_of_pos (p := fun h : THeld => h.Txn != n) e]; rfl
  · rename_i e; rw [List.filter_cons_of_neg (p := fun h : THeld => h.Txn != n) e]; simp
end Go.M
namespace Go.Proofs.YtkegepoihkhihaaGreat
open Go Go.AV Go.M
attribute [local irreducible] OpW OpA OpS AWP FSpec ESpec GSpec OpE RetOk RetOkG RvDen Le Ev GuardIs SrcIs Int.tmod Int.tdiv IntKind.wrap
theorem AX4 (s : TState) (rs : List Str) (ws : List TWrite) (hs : s.size ≤ 400000) (hw : sizeL TWrite.size ws ≤ 400000) : FSpec Tryz.prog 203 [AV.agg s.cs, strs rs, AV.list 3 (ws.map TWrite.cs)] (AV.bool (fits s rs ws)) := by
 obtain ⟨hs1, hs2, hs3, hs4, hs5⟩ := W1 hs
 have hrm : room s.Cells (ws ++ hWs s.Held) = room s.Cells (hWs s.Held ++ ws) := Az7 fun w => by rw [List.mem_append, List.mem_append, or_comm]
 refine E9 Tryz.func203 rfl Tryz.ntmps203 rfl ?_
 refine A3 (A2 ?_)
 refine O3 rfl rfl rfl rfl (A0 rfl) ?_
 intro b3
 refine A1 rfl (B7 rfl F8) ?_
 refine A4 (A3 (A3 (A2 ?_)))
 refine A1 rfl (B1 2 rfl C0 rfl G4 (A0 rfl) rfl) ?_
 refine A1 rfl (B0 0 rfl (A0 rfl) rfl L8 rfl) ?_
 refine A1 rfl (H2 rfl E0 (A0 rfl)) ?_
 refine A1 rfl (B9 rfl B6) ?_
 refine A4 (D1 ?_)
 refine J6 [(1, _), (2, _), (3, _), (10, _), (11, _)] _ (fun (i : Nat) => i ≤ s.Held.length ∧ (s.Held.all fun h => apart h rs ws) = ((s.Held.drop i).all fun h => apart h rs ws)) (fun (i : Nat) => []) (fun (i : Nat) => [(12, AV.int i)]) (fun (i : Nat) => s.Held.length - i) (0) ?_ (K0 ⟨rfl, rfl, rfl, rfl, rfl, rfl, trivial⟩) ?_
 ·exact ⟨Nat.zero_le _, rfl⟩
 intro i hinv
 refine A3 (A2 ?_)
 refine A1 rfl (K5 rfl (A0 rfl) (A0 rfl)) ?_
 refine A4 (A3 ?_)
 refine C4 (A0 rfl) ?_ ?_
 ·intro h13
  have k13 := of_decide_eq_true h13; try simp only [A9] at k13
  have hlt : i < s.Held.length := by omega
  obtain ⟨h, hx⟩ := get_some hlt
  refine C8 (A3 (D1 (A3 (A2 ?_))))
  refine A1 rfl (J4 rfl E0 D4 (A0 rfl) (A0 rfl) hx (by first | omega | (simp only [C9, A8, szR] at *; omega))) ?_
  refine A1 rfl (L4 rfl (A0 rfl) J3 D4) ?_
  refine G3 rfl rfl rfl rfl Tryz.zeroValue141 rfl ?_
  intro b8
  refine D7 0 rfl rfl rfl (A0 rfl) (A0 rfl) (F0 _) rfl D4 rfl ?_
  refine A4 (A3 (A2 ?_))
  refine A1 rfl (G5 0 rfl (A0 rfl) rfl J3 D4 rfl) ?_
  refine A5 rfl ?_
  refine A5 rfl ?_
  refine A1 rfl (E8 rfl Tryz.call178 rfl (apart_spec _ _ _) (A7 (A0 rfl) (A7 (A0 rfl) (A7 (A0 rfl) C6)))) ?_
  refine A1 rfl (M5 rfl (A0 rfl)) ?_
  refine A4 ?_
  refine C4 (A0 rfl) ?_ ?_
  ·intro h20
   have hfin : fits s rs ws = false := by (unfold fits; rw [hinv.2, drop_some hx, List.all_cons, show apart h rs ws = false by simpa using h20]; rfl)
   refine A3 (A2 ?_)
   refine A1 rfl (B7 rfl F8) ?_
   refine A4 ?_
   refine C5 ?_
   exact H9 rfl (B8 rfl (by first | exact congrArg AV.bool hfin.symm | exact congrArg AV.bool (by unfold fits; rw [hap, hrm, Bool.true_and, A9]; congr 1; rw [decide_eq_decide]; omega)))
  intro h20
  refine C8 (A2 ?_)
  refine A1 rfl (G7 rfl (A0 rfl) B6 (by first | omega | (simp only [C9, A8, szR] at *; omega))) ?_
  refine A5 rfl ?_
  refine A4 ?_
  refine L9 i (i + 1) ?_ ?_ (U7 1 ⟨rfl, rfl, rfl, rfl, rfl, rfl, trivial⟩)
  ·exact ⟨by omega, by rw [hinv.2, drop_some hx, List.all_cons, show apart h rs ws = true by simpa using h20]; rfl⟩
  omega
 intro h13
 have k13 := of_decide_eq_false h13; try simp only [A9] at k13
 have hge : s.Held.length ≤ i := by omega
 have hap : (s.Held.all fun h => apart h rs ws) = true := by (rw [hinv.2, List.drop_eq_nil_of_le hge]; rfl)
 refine G9 ?_
 refine A3 (A2 ?_)
 refine A1 rfl (B1 2 rfl C0 rfl G4 (A0 rfl) rfl) ?_
 refine A1 rfl (B0 0 rfl (A0 rfl) rfl L8 rfl) ?_
 refine A1 rfl (H2 rfl E0 (A0 rfl)) ?_
 refine A1 rfl (K5 rfl (A0 rfl) B6) ?_
 refine A5 rfl ?_
 refine D0 rfl (fun hc => G5 0 rfl (A0 rfl) rfl E6 C3 rfl) ?_
 refine D0 rfl (fun hc => B9 rfl (A0 rfl)) ?_
 refine D0 rfl (fun hc => E8 rfl Tryz.call179 rfl (Aw7 _ _ (by first | assumption | omega) (by first | assumption | omega)) (A7 (A6 rfl hc) (A7 (A6 rfl hc) C6))) ?_
 refine A1 rfl (I1 rfl (A0 rfl) (F9 rfl)) ?_
 refine B5 rfl ?_
 refine A4 ?_
 refine C5 ?_
 exact H9 rfl (B8 rfl (by first | exact congrArg AV.bool hfin.symm | exact congrArg AV.bool (by unfold fits; rw [hap, hrm, Bool.true_and, A9]; congr 1; rw [decide_eq_decide]; omega)))
theorem Aq2 (h : THeld) (hs : h.size ≤ 1048576) : GSpec Tryz.prog 225 [AV.agg h.cs] [] (fun _ : Value × Value => True) (fun x => THeld.ow h x) (fun x => AV.agg (THeld.ocs h x)) := by
 have h3 := O2 (f := fun x : Str => x.length) (l := h.Reads)
 have h4 := O2 (f := TWrite.size) (l := h.Writes)
 have h5 : h.size = sizeL (fun x => x.length) h.Reads + sizeL TWrite.size h.Writes := rfl
 refine I9 Tryz.func225 rfl Tryz.ntmps225 rfl ?_
 refine A3 (A2 ?_)
 refine O3 rfl rfl rfl rfl (A0 rfl) ?_
 intro b1
 refine G3 rfl rfl rfl rfl Tryz.zeroValue141 rfl ?_
 intro b2
 refine A4 (A3 (A2 ?_))
 refine A1 rfl (B1 3 rfl F5 rfl N0 (A0 rfl) rfl) ?_
 refine A1 rfl (B0 1 rfl (A0 rfl) rfl P1 rfl) ?_
 refine J9 [] rfl rfl rfl rfl Tryz.call202 rfl (AA7 h.Reads (by omega)) (A7 (A0 rfl) C6) rfl ?_
 intro x5 ok5
 refine A1 rfl (B1 3 rfl F5 rfl N0 (A0 rfl) rfl) ?_
 refine V2 0 rfl fun one_x5 => ?_
 refine K3 2 rfl rfl rfl (A0 rfl) (A0 rfl) (U9 one_x5) rfl N0 rfl ?_
 refine A4 (A3 (A2 ?_))
 refine U3 rfl rfl rfl rfl G0 H6 ?_
 intro v7
 refine A1 rfl (B1 4 rfl F5 rfl K2 (A0 rfl) rfl) ?_
 refine A1 rfl (B0 3 rfl (A0 rfl) rfl M1 rfl) ?_
 refine N3 (by' := 40) 0 rfl rfl rfl rfl G0 Tryz.type101 rfl rfl rfl rfl rfl rfl (A0 rfl) (A0 rfl) rfl (by simp only [L6, A9]; omega) ?_
 intro v10_1
 refine A1 rfl (B1 4 rfl F5 rfl K2 (A0 rfl) rfl) ?_
 refine V2 0 rfl fun one_v10_1 => ?_
 refine K3 3 rfl rfl rfl (A0 rfl) (A0 rfl) (U9 one_v10_1) rfl K2 rfl ?_
 refine A4 (A3 (A2 ?_))
 refine A1 rfl (G5 3 rfl (A0 rfl) rfl J3 D4 rfl) ?_
 refine D7 2 rfl rfl rfl (A0 rfl) (A0 rfl) (F0 _) rfl D4 rfl ?_
 refine A4 ?_
 refine C5 ?_
 exact M3 [1, 0] (x5, v10_1) (trivial) rfl (by rfl) (P7 rfl (M2 (ys := _) 2 rfl rfl J3 D4 rfl))
theorem g8 (h : THeld) (hs : h.size ≤ 1048576) : FSpec Tryz.prog 225 [AV.agg h.cs] (AV.agg h.cs) :=
  T7 (Aq2 h hs) fun x _ => l6 (THeld.lc h x)
theorem AQ8 (l : List TCell) (hs : sizeL TCell.size l ≤ 4194304) : FSpec Tryz.prog 224 [AV.list 2 (l.map TCell.cs)] (AV.list 2 (l.map TCell.cs)) :=
  T7 (Ae8 l hs) fun x h => j0 TCell.lcM h 0 rfl fun o ho => List.mem_cons_of_mem _ ho
theorem An1 (s : TState) (hs : s.size ≤ 1048576) : GSpec Tryz.prog 199 [AV.agg s.cs] [] (fun _ : Value × Value => True) (fun x => TState.ow s x) (fun x => AV.agg (TState.ocs s x)) := by
 obtain ⟨hs1, hs2, hs3, hs4, hs5⟩ := W1 hs
 refine I9 Tryz.func199 rfl Tryz.ntmps199 rfl ?_
 refine A3 (A2 ?_)
 refine O3 rfl rfl rfl rfl (A0 rfl) ?_
 intro b1
 refine G3 rfl rfl rfl rfl Tryz.zeroValue43 rfl ?_
 intro b2
 refine A4 (A3 ?_)
 refine Y3 _ 11 (.pure 0 (.pure 1 (.pure 2 (.pure 3 (.pure 4 (.pure 6 (.pure 7 (.e2 5 (.e2 8 (.pure 9 (.e1 10 .nil)) 10 (.e1 8 (.pure 9 .nil))) 10 (.e1 5 (.e1 8 (.pure 9 .nil))))))))))) (by kernel_rfl) (by kernel_rfl) rfl o8 ?_
 refine G6 rfl rfl rfl (fun ext => B1 0 rfl C0 rfl B4 (A0 rfl) rfl) ?_
 refine G6 rfl rfl rfl (fun ext => B0 1 rfl (A0 rfl) rfl C2 rfl) ?_
 refine G6 rfl rfl rfl (fun ext => B1 1 rfl C0 rfl N2 (A0 rfl) rfl) ?_
 refine G6 rfl rfl rfl (fun ext => B0 1 rfl (A0 rfl) rfl O9 rfl) ?_
 refine G6 rfl rfl rfl (fun ext => E8 rfl Tryz.call224 rfl (AQ8 s.Cells (by omega)) (A7 (A0 rfl) C6)) ?_
 refine G6 rfl rfl rfl (fun ext => B1 3 rfl C0 rfl N4 (A0 rfl) rfl) ?_
 refine G6 rfl rfl rfl (fun ext => B0 1 rfl (A0 rfl) rfl T4 rfl) ?_
 refine AO4 ?_ ?_
 ·refine U4 rfl rfl rfl (Y7 rfl I0 K7) (fun a _ => (by first | exact F3 rfl | exact F3 (List.append_assoc _ _ _) | exact I3)) ?_
  intro v11 _
  refine AO4 ?_ ?_
  ·refine U4 rfl rfl rfl (j7 2 (fun _ => rfl) (O4 (by' := 24) 2 rfl I0 Tryz.type144 rfl rfl rfl rfl rfl rfl (A0 rfl) (A0 rfl) rfl (by simp only [L6, A9]; omega))) (fun a _ => (by first | exact F3 rfl | exact F3 (List.append_assoc _ _ _) | exact I3)) ?_
   intro v14_1 hone_v14_1
   have one_v14_1 := hone_v14_1.2
   refine G6 rfl rfl rfl (fun ext => P0 (places := #[(0, 1), (1, 1), (2, 1), (3, 1)]) rfl C0 Tryz.zeroValue43 (fun w => by kernel_rfl) rfl (D3 (A0 rfl) (K4 _ _) (D3 (A0 rfl) (U8 _ _) (D3 (A0 rfl) (U9 one_v14_1) I2))) rfl) ?_
   refine X1 ?_
   refine U4 rfl rfl rfl (p4 rfl Tryz.zeroValue43 rfl) (fun a _ => (by first | exact F3 rfl | exact F3 (List.append_assoc _ _ _) | exact I3)) ?_
   intro b3 _
   refine d7 ?_
   refine D7 3 rfl rfl rfl (A0 rfl) (A0 rfl) (F0 _) rfl C3 rfl ?_
   refine A4 (A3 (A3 (A2 ?_)))
   refine A1 rfl (B1 2 rfl C0 rfl G4 (A0 rfl) rfl) ?_
   refine A1 rfl (B0 1 rfl (A0 rfl) rfl L8 rfl) ?_
   refine A1 rfl (H2 rfl E0 (A0 rfl)) ?_
   refine A1 rfl (B9 rfl B6) ?_
   refine A4 (D1 ?_)
   refine c7 141 5 ?_
   refine AWP.le (H4 [4, 0] rfl) ?_
   refine Q9 [(2, _), (3, _), (17, _), (18, _)] _ (fun (i : Nat) (v : Value) => i ≤ s.Held.length) (fun (i : Nat) (v : Value) => [.box b3 43 [AV.int s.Floor, AV.list 2 (s.Cells.map TCell.cs), AV.is v, AV.is v14_1], .arr v 141 5 ((s.Held.take i).map THeld.cs)]) (fun (i : Nat) (v : Value) => [(19, AV.int i)]) (fun (i : Nat) (v : Value) => s.Held.length - i) (0) ((Value.slice none 0 0)) ?_ (S6 (by rfl) ⟨rfl, rfl, rfl, rfl, rfl, trivial⟩) ?_
   ·exact Nat.zero_le _
   intro i v hinv
   refine A3 (A2 ?_)
   refine A1 rfl (K5 rfl (A0 rfl) (A0 rfl)) ?_
   refine A4 (A3 ?_)
   refine C4 (A0 rfl) ?_ ?_
   ·intro h20
    have k20 := of_decide_eq_true h20; try simp only [A9] at k20
    have hlt : i < s.Held.length := by omega
    obtain ⟨h, hx⟩ := get_some hlt
    obtain ⟨g1, g2, g3, g4, g5⟩ := X8 hs2 hx
    refine C8 (A3 (D1 (A3 (A2 ?_))))
    refine A1 rfl (J4 rfl E0 D4 (A0 rfl) (A0 rfl) hx (by first | omega | (simp only [C9, A8, szR] at *; omega))) ?_
    refine A1 rfl (L4 rfl (A0 rfl) J3 D4) ?_
    refine G3 rfl rfl rfl rfl Tryz.zeroValue141 rfl ?_
    intro b5
    refine D7 0 rfl rfl rfl (A0 rfl) (A0 rfl) (F0 _) rfl D4 rfl ?_
    refine A4 ?_
    refine V5 5 (by kernel_rfl) (by kernel_rfl) rfl ?_
    refine B2 rfl rfl (B1 2 rfl C0 rfl G4 (A0 rfl) rfl) ?_
    refine B2 rfl rfl (B0 1 rfl (A0 rfl) rfl L8 rfl) ?_
    refine B2 rfl rfl (G5 0 rfl (A0 rfl) rfl J3 D4 rfl) ?_
    refine B2 rfl rfl (E8 rfl Tryz.call225 rfl (g8 _ (by first | assumption | omega)) (A7 (A0 rfl) C6)) ?_
    refine B2 rfl rfl (L2 rfl E0 D4 Tryz.zeroValue141 rfl rfl rfl rfl (D3 (A0 rfl) (F0 _) I2) rfl rfl) ?_
    refine P2 ?_
    refine N3 (by' := 72) 2 rfl rfl rfl rfl E0 Tryz.type141 rfl rfl rfl rfl rfl rfl (A0 rfl) (A0 rfl) rfl (by simp only [A9, E4, A8]; omega) ?_
    intro v28_2
    refine A1 rfl (B1 2 rfl C0 rfl G4 (A0 rfl) rfl) ?_
    refine V2 2 rfl fun one_v28_2 => ?_
    refine K3 1 rfl rfl rfl (A0 rfl) (A0 rfl) (U9 one_v28_2) rfl G4 rfl ?_
    refine A4 (A2 ?_)
    refine A1 rfl (G7 rfl (A0 rfl) B6 (by first | omega | (simp only [C9, A8, szR] at *; omega))) ?_
    refine A5 rfl ?_
    refine A4 ?_
    refine P6 i v (i + 1) (v28_2) ?_ ?_ (Le.trans (H4 [0, 0, 0] rfl) (L5 1 (by exact congrArg (fun z => Own.box b3 43 [AV.int s.Floor, AV.list 2 (s.Cells.map TCell.cs), AV.is v28_2, AV.is v14_1] :: Own.arr v28_2 141 5 z :: _) (Y8 (f := THeld.cs) hx)) ⟨rfl, rfl, rfl, rfl, rfl, trivial⟩))
    ·omega
    omega
   intro h20
   have k20 := of_decide_eq_false h20; try simp only [A9] at k20
   have hge : i = s.Held.length := by omega
   rw [hge, List.take_length]
   refine G9 ?_
   refine A3 (A2 ?_)
   refine A1 rfl (G5 0 rfl (A0 rfl) rfl E6 C3 rfl) ?_
   refine D7 2 rfl rfl rfl (A0 rfl) (A0 rfl) (F0 _) rfl C3 rfl ?_
   refine A4 ?_
   refine C5 ?_
   exact M3 [1, 3] (v, v14_1) (trivial) rfl (by rfl) (P7 rfl (M2 (ys := _) 2 rfl rfl E6 C3 rfl))
  refine U4 rfl rfl rfl (p4 rfl Tryz.zeroValue43 rfl) (fun a _ => (by first | exact F3 rfl | exact F3 (List.append_assoc _ _ _) | exact I3)) ?_
  intro b3 _
  refine X1 ?_
  refine U4 rfl rfl rfl (j7 2 (fun _ => rfl) (O4 (by' := 24) 2 rfl I0 Tryz.type144 rfl rfl rfl rfl rfl rfl (A0 rfl) (A0 rfl) rfl (by simp only [L6, A9]; omega))) (fun a _ => (by first | exact F3 rfl | exact F3 (List.append_assoc _ _ _) | exact I3)) ?_
  intro v14_3 hone_v14_3
  have one_v14_3 := hone_v14_3.2
  refine G6 rfl rfl rfl (fun ext => P0 (places := #[(0, 1), (1, 1), (2, 1), (3, 1)]) rfl C0 Tryz.zeroValue43 (fun w => by kernel_rfl) rfl (D3 (A0 rfl) (K4 _ _) (D3 (A0 rfl) (U8 _ _) (D3 (A0 rfl) (U9 one_v14_3) I2))) rfl) ?_
  refine d7 ?_
  refine D7 3 rfl rfl rfl (A0 rfl) (A0 rfl) (F0 _) rfl C3 rfl ?_
  refine A4 (A3 (A3 (A2 ?_)))
  refine A1 rfl (B1 2 rfl C0 rfl G4 (A0 rfl) rfl) ?_
  refine A1 rfl (B0 1 rfl (A0 rfl) rfl L8 rfl) ?_
  refine A1 rfl (H2 rfl E0 (A0 rfl)) ?_
  refine A1 rfl (B9 rfl B6) ?_
  refine A4 (D1 ?_)
  refine c7 141 5 ?_
  refine AWP.le (H4 [4, 0] rfl) ?_
  refine Q9 [(2, _), (3, _), (17, _), (18, _)] _ (fun (i : Nat) (v : Value) => i ≤ s.Held.length) (fun (i : Nat) (v : Value) => [.box b3 43 [AV.int s.Floor, AV.list 2 (s.Cells.map TCell.cs), AV.is v, AV.is v14_3], .arr v 141 5 ((s.Held.take i).map THeld.cs)]) (fun (i : Nat) (v : Value) => [(19, AV.int i)]) (fun (i : Nat) (v : Value) => s.Held.length - i) (0) ((Value.slice none 0 0)) ?_ (S6 (by rfl) ⟨rfl, rfl, rfl, rfl, rfl, trivial⟩) ?_
  ·exact Nat.zero_le _
  intro i v hinv
  refine A3 (A2 ?_)
  refine A1 rfl (K5 rfl (A0 rfl) (A0 rfl)) ?_
  refine A4 (A3 ?_)
  refine C4 (A0 rfl) ?_ ?_
  ·intro h20
   have k20 := of_decide_eq_true h20; try simp only [A9] at k20
   have hlt : i < s.Held.length := by omega
   obtain ⟨h, hx⟩ := get_some hlt
   obtain ⟨g1, g2, g3, g4, g5⟩ := X8 hs2 hx
   refine C8 (A3 (D1 (A3 (A2 ?_))))
   refine A1 rfl (J4 rfl E0 D4 (A0 rfl) (A0 rfl) hx (by first | omega | (simp only [C9, A8, szR] at *; omega))) ?_
   refine A1 rfl (L4 rfl (A0 rfl) J3 D4) ?_
   refine G3 rfl rfl rfl rfl Tryz.zeroValue141 rfl ?_
   intro b5
   refine D7 0 rfl rfl rfl (A0 rfl) (A0 rfl) (F0 _) rfl D4 rfl ?_
   refine A4 ?_
   refine V5 5 (by kernel_rfl) (by kernel_rfl) rfl ?_
   refine B2 rfl rfl (B1 2 rfl C0 rfl G4 (A0 rfl) rfl) ?_
   refine B2 rfl rfl (B0 1 rfl (A0 rfl) rfl L8 rfl) ?_
   refine B2 rfl rfl (G5 0 rfl (A0 rfl) rfl J3 D4 rfl) ?_
   refine B2 rfl rfl (E8 rfl Tryz.call225 rfl (g8 _ (by first | assumption | omega)) (A7 (A0 rfl) C6)) ?_
   refine B2 rfl rfl (L2 rfl E0 D4 Tryz.zeroValue141 rfl rfl rfl rfl (D3 (A0 rfl) (F0 _) I2) rfl rfl) ?_
   refine P2 ?_
   refine N3 (by' := 72) 2 rfl rfl rfl rfl E0 Tryz.type141 rfl rfl rfl rfl rfl rfl (A0 rfl) (A0 rfl) rfl (by simp only [A9, E4, A8]; omega) ?_
   intro v28_4
   refine A1 rfl (B1 2 rfl C0 rfl G4 (A0 rfl) rfl) ?_
   refine V2 2 rfl fun one_v28_4 => ?_
   refine K3 1 rfl rfl rfl (A0 rfl) (A0 rfl) (U9 one_v28_4) rfl G4 rfl ?_
   refine A4 (A2 ?_)
   refine A1 rfl (G7 rfl (A0 rfl) B6 (by first | omega | (simp only [C9, A8, szR] at *; omega))) ?_
   refine A5 rfl ?_
   refine A4 ?_
   refine P6 i v (i + 1) (v28_4) ?_ ?_ (Le.trans (H4 [0, 0, 0] rfl) (L5 1 (by exact congrArg (fun z => Own.box b3 43 [AV.int s.Floor, AV.list 2 (s.Cells.map TCell.cs), AV.is v28_4, AV.is v14_3] :: Own.arr v28_4 141 5 z :: _) (Y8 (f := THeld.cs) hx)) ⟨rfl, rfl, rfl, rfl, rfl, trivial⟩))
   ·omega
   omega
  intro h20
  have k20 := of_decide_eq_false h20; try simp only [A9] at k20
  have hge : i = s.Held.length := by omega
  rw [hge, List.take_length]
  refine G9 ?_
  refine A3 (A2 ?_)
  refine A1 rfl (G5 0 rfl (A0 rfl) rfl E6 C3 rfl) ?_
  refine D7 2 rfl rfl rfl (A0 rfl) (A0 rfl) (F0 _) rfl C3 rfl ?_
  refine A4 ?_
  refine C5 ?_
  exact M3 [1, 3] (v, v14_3) (trivial) rfl (by rfl) (P7 rfl (M2 (ys := _) 2 rfl rfl E6 C3 rfl))
 refine U4 rfl rfl rfl (p4 rfl Tryz.zeroValue43 rfl) (fun a _ => (by first | exact F3 rfl | exact F3 (List.append_assoc _ _ _) | exact I3)) ?_
 intro b3 _
 refine X1 ?_
 refine U4 rfl rfl rfl (Y7 rfl I0 K7) (fun a _ => (by first | exact F3 rfl | exact F3 (List.append_assoc _ _ _) | exact I3)) ?_
 intro v11 _
 refine X1 ?_
 refine U4 rfl rfl rfl (j7 3 (fun _ => rfl) (O4 (by' := 24) 3 rfl I0 Tryz.type144 rfl rfl rfl rfl rfl rfl (A0 rfl) (A0 rfl) rfl (by simp only [L6, A9]; omega))) (fun a _ => (by first | exact F3 rfl | exact F3 (List.append_assoc _ _ _) | exact I3)) ?_
 intro v14_5 hone_v14_5
 have one_v14_5 := hone_v14_5.2
 refine G6 rfl rfl rfl (fun ext => P0 (places := #[(0, 1), (1, 1), (2, 1), (3, 1)]) rfl C0 Tryz.zeroValue43 (fun w => by kernel_rfl) rfl (D3 (A0 rfl) (K4 _ _) (D3 (A0 rfl) (U8 _ _) (D3 (A0 rfl) (U9 one_v14_5) I2))) rfl) ?_
 refine d7 ?_
 refine D7 2 rfl rfl rfl (A0 rfl) (A0 rfl) (F0 _) rfl C3 rfl ?_
 refine A4 (A3 (A3 (A2 ?_)))
 refine A1 rfl (B1 2 rfl C0 rfl G4 (A0 rfl) rfl) ?_
 refine A1 rfl (B0 1 rfl (A0 rfl) rfl L8 rfl) ?_
 refine A1 rfl (H2 rfl E0 (A0 rfl)) ?_
 refine A1 rfl (B9 rfl B6) ?_
 refine A4 (D1 ?_)
 refine c7 141 5 ?_
 refine AWP.le (H4 [3, 0] rfl) ?_
 refine Q9 [(2, _), (3, _), (17, _), (18, _)] _ (fun (i : Nat) (v : Value) => i ≤ s.Held.length) (fun (i : Nat) (v : Value) => [.box b3 43 [AV.int s.Floor, AV.list 2 (s.Cells.map TCell.cs), AV.is v, AV.is v14_5], .arr v 141 5 ((s.Held.take i).map THeld.cs)]) (fun (i : Nat) (v : Value) => [(19, AV.int i)]) (fun (i : Nat) (v : Value) => s.Held.length - i) (0) ((Value.slice none 0 0)) ?_ (S6 (by rfl) ⟨rfl, rfl, rfl, rfl, rfl, trivial⟩) ?_
 ·exact Nat.zero_le _
 intro i v hinv
 refine A3 (A2 ?_)
 refine A1 rfl (K5 rfl (A0 rfl) (A0 rfl)) ?_
 refine A4 (A3 ?_)
 refine C4 (A0 rfl) ?_ ?_
 ·intro h20
  have k20 := of_decide_eq_true h20; try simp only [A9] at k20
  have hlt : i < s.Held.length := by omega
  obtain ⟨h, hx⟩ := get_some hlt
  obtain ⟨g1, g2, g3, g4, g5⟩ := X8 hs2 hx
  refine C8 (A3 (D1 (A3 (A2 ?_))))
  refine A1 rfl (J4 rfl E0 D4 (A0 rfl) (A0 rfl) hx (by first | omega | (simp only [C9, A8, szR] at *; omega))) ?_
  refine A1 rfl (L4 rfl (A0 rfl) J3 D4) ?_
  refine G3 rfl rfl rfl rfl Tryz.zeroValue141 rfl ?_
  intro b5
  refine D7 0 rfl rfl rfl (A0 rfl) (A0 rfl) (F0 _) rfl D4 rfl ?_
  refine A4 ?_
  refine V5 5 (by kernel_rfl) (by kernel_rfl) rfl ?_
  refine B2 rfl rfl (B1 2 rfl C0 rfl G4 (A0 rfl) rfl) ?_
  refine B2 rfl rfl (B0 1 rfl (A0 rfl) rfl L8 rfl) ?_
  refine B2 rfl rfl (G5 0 rfl (A0 rfl) rfl J3 D4 rfl) ?_
  refine B2 rfl rfl (E8 rfl Tryz.call225 rfl (g8 _ (by first | assumption | omega)) (A7 (A0 rfl) C6)) ?_
  refine B2 rfl rfl (L2 rfl E0 D4 Tryz.zeroValue141 rfl rfl rfl rfl (D3 (A0 rfl) (F0 _) I2) rfl rfl) ?_
  refine P2 ?_
  refine N3 (by' := 72) 2 rfl rfl rfl rfl E0 Tryz.type141 rfl rfl rfl rfl rfl rfl (A0 rfl) (A0 rfl) rfl (by simp only [A9, E4, A8]; omega) ?_
  intro v28_6
  refine A1 rfl (B1 2 rfl C0 rfl G4 (A0 rfl) rfl) ?_
  refine V2 2 rfl fun one_v28_6 => ?_
  refine K3 1 rfl rfl rfl (A0 rfl) (A0 rfl) (U9 one_v28_6) rfl G4 rfl ?_
  refine A4 (A2 ?_)
  refine A1 rfl (G7 rfl (A0 rfl) B6 (by first | omega | (simp only [C9, A8, szR] at *; omega))) ?_
  refine A5 rfl ?_
  refine A4 ?_
  refine P6 i v (i + 1) (v28_6) ?_ ?_ (Le.trans (H4 [0, 0, 0] rfl) (L5 1 (by exact congrArg (fun z => Own.box b3 43 [AV.int s.Floor, AV.list 2 (s.Cells.map TCell.cs), AV.is v28_6, AV.is v14_5] :: Own.arr v28_6 141 5 z :: _) (Y8 (f := THeld.cs) hx)) ⟨rfl, rfl, rfl, rfl, rfl, trivial⟩))
  ·omega
  omega
 intro h20
 have k20 := of_decide_eq_false h20; try simp only [A9] at k20
 have hge : i = s.Held.length := by omega
 rw [hge, List.take_length]
 refine G9 ?_
 refine A3 (A2 ?_)
 refine A1 rfl (G5 0 rfl (A0 rfl) rfl E6 C3 rfl) ?_
 refine D7 2 rfl rfl rfl (A0 rfl) (A0 rfl) (F0 _) rfl C3 rfl ?_
 refine A4 ?_
 refine C5 ?_
 exact M3 [1, 3] (v, v14_5) (trivial) rfl (by rfl) (P7 rfl (M2 (ys := _) 2 rfl rfl E6 C3 rfl))
theorem Ai1 (s : TState) (hs : s.size ≤ 1048576) : FSpec Tryz.prog 199 [AV.agg s.cs] (AV.agg s.cs) :=
  T7 (An1 s hs) fun x _ => l6 (TState.lc s x)
theorem AT6 (l : List THeld) (n : Int) (hl : l.length ≤ 1048576) : GSpec Tryz.prog 205 [AV.list 5 (l.map THeld.cs), AV.int n] [] (fun _ : Value => True) (fun v => [.arr v 141 5 ((lessH l n).map THeld.cs)]) (fun v => AV.is v) := by
 refine I9 Tryz.func205 rfl Tryz.ntmps205 rfl ?_
 refine A3 (A2 ?_)
 refine A1 rfl (B7 rfl M4) ?_
 refine A4 (A3 (A2 ?_))
 refine X5 141 5 rfl rfl rfl rfl M4 ?_
 intro v5
 refine A4 (A3 (A3 (A2 ?_)))
 refine A5 rfl ?_
 refine A1 rfl (H2 rfl E0 (A0 rfl)) ?_
 refine A1 rfl (B9 rfl B6) ?_
 refine A4 (D1 ?_)
 refine Z4 [(1, _), (4, _), (8, _), (9, _)] _ (fun (i : Nat) (v : Value) (q : List THeld) => i ≤ l.length ∧ q = lessH (l.take i) n ∧ q.length ≤ i) (fun (i : Nat) (v : Value) (q : List THeld) => [.arr v 141 5 (q.map THeld.cs)]) (fun (i : Nat) (v : Value) (q : List THeld) => [(5, AV.is v), (10, AV.int i)]) (fun (i : Nat) (v : Value) (q : List THeld) => l.length - i) (0) (v5) ([]) ?_ (S6 (by rfl) ⟨rfl, rfl, rfl, rfl, rfl, rfl, trivial⟩) ?_
 ·exact ⟨Nat.zero_le _, rfl, Nat.le_refl _⟩
 intro i v q hinv
 refine A3 (A2 ?_)
 refine A1 rfl (K5 rfl (A0 rfl) (A0 rfl)) ?_
 refine A4 (A3 ?_)
 refine C4 (A0 rfl) ?_ ?_
 ·intro h11
  have k11 := of_decide_eq_true h11; try simp only [A9] at k11
  have hlt : i < l.length := by omega
  obtain ⟨h, hx⟩ := get_some hlt
  refine C8 (A3 (D1 (A3 (A2 ?_))))
  refine A1 rfl (J4 rfl E0 D4 (A0 rfl) (A0 rfl) hx (by first | omega | (simp only [C9, A8, szR] at *; omega))) ?_
  refine A1 rfl (L4 rfl (A0 rfl) J3 D4) ?_
  refine G3 rfl rfl rfl rfl Tryz.zeroValue141 rfl ?_
  intro b7
  refine D7 0 rfl rfl rfl (A0 rfl) (A0 rfl) (F0 _) rfl D4 rfl ?_
  refine A4 (A3 (A2 ?_))
  refine A1 rfl (B1 0 rfl F5 rfl B4 (A0 rfl) rfl) ?_
  refine A1 rfl (B0 0 rfl (A0 rfl) rfl C2 rfl) ?_
  refine A5 rfl ?_
  refine A1 rfl (n4 rfl (A0 rfl) (A0 rfl)) ?_
  refine A4 ?_
  refine C4 (A0 rfl) ?_ ?_
  ·intro h17
   have k17 := k6 h17; try simp only [A9] at k17
   refine A2 ?_
   refine A5 rfl ?_
   refine A1 rfl (G5 0 rfl (A0 rfl) rfl J3 D4 rfl) ?_
   refine A1 rfl (L2 rfl E0 D4 Tryz.zeroValue141 rfl rfl rfl rfl (D3 (A0 rfl) (F0 _) I2) rfl rfl) ?_
   refine N3 (by' := 72) 1 rfl rfl rfl rfl E0 Tryz.type141 rfl rfl rfl rfl rfl rfl (A0 rfl) (A0 rfl) rfl (by first | omega | (simp only [C9, A8, szR] at *; omega)) ?_
   intro v21_1
   refine B5 rfl ?_
   refine A4 (A2 ?_)
   refine A1 rfl (G7 rfl (A0 rfl) B6 (by first | omega | (simp only [C9, A8, szR] at *; omega))) ?_
   refine A5 rfl ?_
   refine A4 ?_
   refine X0 i v q (i + 1) (v21_1) (q ++ [h]) ?_ ?_ (Le.trans (H4 [0, 0] rfl) (L5 1 (by first | rfl | (rw [List.map_append]; rfl)) ⟨rfl, rfl, rfl, rfl, rfl, rfl, trivial⟩))
   ·first | exact ⟨by omega, by rw [AD8 hx, if_pos h17, hinv.2.1], by rw [H5]; simp; omega⟩ | exact ⟨by omega, by rw [AD8 hx, if_neg (by rw [h17]; decide), hinv.2.1], by omega⟩
   omega
  intro h17
  have k17 := X9 h17; try simp only [A9] at k17
  refine C8 (A2 ?_)
  refine A1 rfl (G7 rfl (A0 rfl) B6 (by first | omega | (simp only [C9, A8, szR] at *; omega))) ?_
  refine A5 rfl ?_
  refine A4 ?_
  refine X0 i v q (i + 1) (v) (q) ?_ ?_ (Le.trans (H4 [0, 0] rfl) (L5 1 (by first | rfl | (rw [List.map_append]; rfl)) ⟨rfl, rfl, rfl, rfl, rfl, rfl, trivial⟩))
  ·first | exact ⟨by omega, by rw [AD8 hx, if_pos h17, hinv.2.1], by rw [H5]; simp; omega⟩ | exact ⟨by omega, by rw [AD8 hx, if_neg (by rw [h17]; decide), hinv.2.1], by omega⟩
  omega
 intro h11
 have k11 := of_decide_eq_false h11; try simp only [A9] at k11
 have hge : l.length ≤ i := by omega
 have hq := hinv.2.1
 rw [List.take_of_length_le hge] at hq
 rw [← hq]
 refine G9 ?_
 refine A3 (A2 ?_)
 refine A5 rfl ?_
 refine B5 rfl ?_
 refine A4 ?_
 refine C5 ?_
 exact M3 [0] v (trivial) rfl (by rfl) (P7 rfl (B8 rfl (by rfl)))
theorem Af4 (l : List THeld) (n : Int) (hl : l.length ≤ 1048576) : FSpec Tryz.prog 205 [AV.list 5 (l.map THeld.cs), AV.int n] (AV.list 5 ((lessH l n).map THeld.cs)) :=
  T7 (AT6 l n hl) fun x _ => N8 (List.mem_singleton.2 rfl) J7
theorem put_csH (l : List THeld) (k : Nat) (x : THeld) : (l.take k ++ x :: l.drop k).map THeld.cs = [] ++ (l.take (k : Int).toNat).map THeld.cs ++ [x.cs] ++ ([] ++ (l.drop (k : Int).toNat).map THeld.cs) := by simp
theorem AQ9 (l : List THeld) (h : THeld) (hs : l.Pairwise fun a b => a.Txn < b.Txn) (hl : l.length ≤ 1048576) : GSpec Tryz.prog 201 [AV.list 5 (l.map THeld.cs), AV.agg h.cs] [] (fun _ : Value => True) (fun v => [.arr v 141 5 ((insH h l).map THeld.cs)]) (fun v => AV.is v) := by
 refine I9 Tryz.func201 rfl Tryz.ntmps201 rfl ?_
 refine A3 (A2 ?_)
 refine O3 rfl rfl rfl rfl (A0 rfl) ?_
 intro b3
 refine A1 rfl (B7 rfl M4) ?_
 refine A4 (A3 (A2 ?_))
 refine A5 rfl ?_
 refine A1 rfl (H2 rfl E0 (A0 rfl)) ?_
 refine B5 rfl ?_
 refine A4 (A3 (D1 ?_))
 refine J6 [(0, _), (3, _), (4, _)] _ (fun (k : Nat) => k ≤ l.length ∧ ∀ i y, k ≤ i → l[i]? = some y → h.Txn < y.Txn) (fun (k : Nat) => []) (fun (k : Nat) => [(5, AV.int k)]) (fun (k : Nat) => k) (l.length) ?_ (K0 ⟨congrArg (fun z => some (AV.int z)) (by rw [A9]), rfl, rfl, rfl, trivial⟩) ?_
 ·exact ⟨Nat.le_refl _, fun i y h1 h2 => by (have := (List.getElem?_eq_some_iff.1 h2).1; omega)⟩
 intro k hinv
 obtain ⟨y, hy0⟩ : ∃ y : THeld, 0 < k → l[k - 1]? = some y := by (by_cases h9 : 0 < k; (have h8 := hinv.1; exact ⟨_, fun _ => List.getElem?_eq_getElem (show k - 1 < l.length by omega)⟩); exact ⟨h, fun h8 => absurd h8 h9⟩)
 have hk1 : 0 < k → ((k : Int) - 1).toNat = k - 1 := fun _ => by omega
 refine A3 (A3 ?_)
 refine J5 (by kernel_rfl) (by kernel_rfl) rfl ?_
 refine B2 rfl rfl (B9 rfl (A0 rfl)) ?_
 refine B2 rfl rfl (O8 rfl (A0 rfl) B6) ?_
 refine B2 rfl rfl (B9 rfl (A0 rfl)) ?_
 refine D2 rfl (H1 rfl rfl rfl) (fun hc => B9 rfl (A0 rfl)) ?_
 refine D2 rfl (H1 rfl rfl rfl) (fun hc => B9 rfl (A0 rfl)) ?_
 refine D2 rfl (H1 rfl rfl rfl) (fun hc => P9 rfl (A6 rfl hc) B6 (by first | omega | ((try simp only [C9, A8, szR] at *); omega) | (have hc2 := hc; simp only [P4, beq_iff_eq, bne_iff_ne, A9, E4] at hc2; omega))) ?_
 refine D2 rfl (H1 rfl rfl rfl) (fun hc => p8 rfl E0 D4 (A6 rfl hc) (A6 rfl hc) (by have := of_decide_eq_true hc; have := hinv.1; omega) (by have h9 := of_decide_eq_true hc; rw [hk1 (by omega), List.getElem?_map, hy0 (by omega)]; rfl)) ?_
 refine D2 rfl (H1 rfl rfl rfl) (fun hc => V7 rfl F5 rfl B4 (A6 rfl hc) rfl) ?_
 refine D2 rfl (H1 rfl rfl rfl) (fun hc => N9 rfl (A6 rfl hc) C2 rfl) ?_
 refine D2 rfl (H1 rfl rfl rfl) (fun hc => B1 0 rfl F5 rfl B4 (A0 rfl) rfl) ?_
 refine D2 rfl (H1 rfl rfl rfl) (fun hc => B0 0 rfl (A6 rfl hc) rfl C2 rfl) ?_
 refine D2 rfl (H1 rfl rfl rfl) (fun hc => O8 rfl (A6 rfl hc) (A6 rfl hc)) ?_
 refine B2 rfl rfl (I1 rfl (A0 rfl) (F9 rfl)) ?_
 refine P2 ?_
 refine C4 (A0 rfl) ?_ ?_
 ·intro h21
  have hkt : 0 < k ∧ h.Txn < y.Txn := by simpa using h21
  refine C8 (D1 (A2 ?_))
  refine A5 rfl ?_
  refine A1 rfl (P9 rfl (A0 rfl) B6 (by first | omega | (simp only [C9, A8, szR] at *; omega))) ?_
  refine B5 rfl ?_
  refine A4 ?_
  refine k0 ?_
  refine L9 k (k - 1) ?_ ?_ (K0 ⟨congrArg (fun z => some (AV.int z)) (by omega), rfl, rfl, rfl, trivial⟩)
  ·exact ⟨by omega, fun i z hi hz => if e : k ≤ i then hinv.2 i z e hz else (by have e2 : i = k - 1 := (by omega); subst e2; rw [hy0 hkt.1] at hz; injection hz with hz; subst hz; exact hkt.2)⟩
  omega
 intro h21
 have hng : 0 < k → ¬ h.Txn < y.Txn := fun h9 => by simpa [h9] using h21
 have hput : insH h l = l.take k ++ h :: l.drop k := Af0 hinv.1 (fun i x hi hx => by have h7 := hy0 (by omega); have h8 := hng (by omega); rcases Nat.lt_or_ge i (k - 1) with h6 | h6; (have := AO6 (f := THeld.Txn) hs h6 hx h7; omega); (have : i = k - 1 := (by omega); subst this; rw [hx] at h7; injection h7 with h7; subst h7; omega)) (fun x hx => hinv.2 k x (Nat.le_refl _) hx)
 rw [hput]
 refine G9 ?_
 refine A3 (A2 ?_)
 refine U3 rfl rfl rfl rfl E0 D4 ?_
 intro v24
 refine A5 rfl ?_
 refine A5 rfl ?_
 refine A1 rfl (Ab8 rfl E0 D4 (A0 rfl) (A0 rfl) (by omega) (by first | omega | (simp only [A9]; omega))) ?_
 refine N3 (by' := 72) 0 rfl rfl rfl rfl E0 Tryz.type141 rfl rfl rfl rfl rfl rfl (A0 rfl) (A0 rfl) rfl (by simp only [L6, A9, List.length_drop]; omega) ?_
 intro v28_1
 refine B5 rfl ?_
 refine A4 (A3 ?_)
 refine AWP.le (Z3 [0] 6 rfl rfl (N8 (G2 (i := 0) rfl) J7) Q1) ?_
 refine S3 _ [(1, false), (2, false), (3, false), (5, false), (6, false), (8, false), (0, true), (4, true), (7, true), (9, true)] (by kernel_rfl) (by kernel_rfl) rfl o8 ?_
 refine F1 rfl rfl rfl (fun ext => B9 rfl (A0 rfl)) ?_
 refine F1 rfl rfl rfl (fun ext => B9 rfl (A0 rfl)) ?_
 refine F1 rfl rfl rfl (fun ext => AC7 rfl E0 D4 (A0 rfl) (A0 rfl) (by omega) (by first | omega | (simp only [A9]; omega))) ?_
 refine F1 rfl rfl rfl (fun ext => G5 0 rfl (A0 rfl) rfl J3 D4 rfl) ?_
 refine F1 rfl rfl rfl (fun ext => L2 rfl E0 D4 Tryz.zeroValue141 rfl rfl rfl rfl (D3 (A0 rfl) (F0 _) I2) rfl rfl) ?_
 refine F1 rfl rfl rfl (fun ext => B9 rfl (A0 rfl)) ?_
 refine T5 rfl rfl rfl (Y7 rfl E0 D4) (fun a _ => (by first | exact F3 rfl | exact F3 (List.append_assoc _ _ _) | exact I3)) ?_
 intro v29 _
 refine T5 rfl rfl rfl (O4 (by' := 72) 1 rfl E0 Tryz.type141 rfl rfl rfl rfl rfl rfl (A0 rfl) (A0 rfl) rfl (by simp only [L6, List.nil_append, H5, E4, List.length_drop, I5, A9, A8]; omega)) (fun a _ => (by first | exact F3 rfl | exact F3 (List.append_assoc _ _ _) | exact I3)) ?_
 intro v33_2 _
 refine T5 rfl rfl rfl (O4 (by' := 72) 1 rfl E0 Tryz.type141 rfl rfl rfl rfl rfl rfl (A0 rfl) (A0 rfl) rfl (by simp only [L6, List.nil_append, H5, E4, List.length_drop, I5, A9, A8]; omega)) (fun a _ => (by first | exact F3 rfl | exact F3 (List.append_assoc _ _ _) | exact I3)) ?_
 intro v36_3 _
 refine T5 rfl rfl rfl (O4 (by' := 72) 1 rfl E0 Tryz.type141 rfl rfl rfl rfl rfl rfl (A0 rfl) (A0 rfl) rfl (by simp only [L6, List.nil_append, H5, E4, List.length_drop, I5, A9, A8]; omega)) (fun a _ => (by first | exact F3 rfl | exact F3 (List.append_assoc _ _ _) | exact I3)) ?_
 intro v38_4 _
 refine g6 ?_
 refine B5 rfl ?_
 refine A4 ?_
 refine C5 ?_
 exact M3 [1] v38_4 (trivial) rfl (by first | rfl | exact congrArg (fun z => [Own.arr _ 141 5 z]) (put_csH _ _ _)) (P7 rfl (B8 rfl (by rfl)))
theorem An2 (l : List THeld) (h : THeld) (hs : l.Pairwise fun a b => a.Txn < b.Txn) (hl : l.length ≤ 1048576) : FSpec Tryz.prog 201 [AV.list 5 (l.map THeld.cs), AV.agg h.cs] (AV.list 5 ((insH h l).map THeld.cs)) :=
  T7 (AQ9 l h hs hl) fun x _ => N8 (List.mem_singleton.2 rfl) J7
theorem put_csT (l : List TTold) (k : Nat) (x : TTold) : (l.take k ++ x :: l.drop k).map TTold.cs = [] ++ (l.take (k : Int).toNat).map TTold.cs ++ [x.cs] ++ ([] ++ (l.drop (k : Int).toNat).map TTold.cs) := by simp
theorem AF4 (l : List TTold) (h : TTold) (hs : l.Pairwise fun a b => a.Txn < b.Txn) (hl : l.length ≤ 1048576) : GSpec Tryz.prog 206 [AV.list 3 (l.map TTold.cs), AV.agg h.cs] [] (fun _ : Value => True) (fun v => [.arr v 144 3 ((insT h l).map TTold.cs)]) (fun v => AV.is v) := by
 refine I9 Tryz.func206 rfl Tryz.ntmps206 rfl ?_
 refine A3 (A2 ?_)
 refine O3 rfl rfl rfl rfl (A0 rfl) ?_
 intro b3
 refine A1 rfl (B7 rfl M4) ?_
 refine A4 (A3 (A2 ?_))
 refine A5 rfl ?_
 refine A1 rfl (H2 rfl I0 (A0 rfl)) ?_
 refine B5 rfl ?_
 refine A4 (A3 (D1 ?_))
 refine J6 [(0, _), (3, _), (4, _)] _ (fun (k : Nat) => k ≤ l.length ∧ ∀ i y, k ≤ i → l[i]? = some y → h.Txn < y.Txn) (fun (k : Nat) => []) (fun (k : Nat) => [(5, AV.int k)]) (fun (k : Nat) => k) (l.length) ?_ (K0 ⟨congrArg (fun z => some (AV.int z)) (by rw [A9]), rfl, rfl, rfl, trivial⟩) ?_
 ·exact ⟨Nat.le_refl _, fun i y h1 h2 => by (have := (List.getElem?_eq_some_iff.1 h2).1; omega)⟩
 intro k hinv
 obtain ⟨y, hy0⟩ : ∃ y : TTold, 0 < k → l[k - 1]? = some y := by (by_cases h9 : 0 < k; (have h8 := hinv.1; exact ⟨_, fun _ => List.getElem?_eq_getElem (show k - 1 < l.length by omega)⟩); exact ⟨h, fun h8 => absurd h8 h9⟩)
 have hk1 : 0 < k → ((k : Int) - 1).toNat = k - 1 := fun _ => by omega
 refine A3 (A3 ?_)
 refine J5 (by kernel_rfl) (by kernel_rfl) rfl ?_
 refine B2 rfl rfl (B9 rfl (A0 rfl)) ?_
 refine B2 rfl rfl (O8 rfl (A0 rfl) B6) ?_
 refine B2 rfl rfl (B9 rfl (A0 rfl)) ?_
 refine D2 rfl (H1 rfl rfl rfl) (fun hc => B9 rfl (A0 rfl)) ?_
 refine D2 rfl (H1 rfl rfl rfl) (fun hc => B9 rfl (A0 rfl)) ?_
 refine D2 rfl (H1 rfl rfl rfl) (fun hc => P9 rfl (A6 rfl hc) B6 (by first | omega | ((try simp only [C9, A8, szR] at *); omega) | (have hc2 := hc; simp only [P4, beq_iff_eq, bne_iff_ne, A9, E4] at hc2; omega))) ?_
 refine D2 rfl (H1 rfl rfl rfl) (fun hc => p8 rfl I0 K7 (A6 rfl hc) (A6 rfl hc) (by have := of_decide_eq_true hc; have := hinv.1; omega) (by have h9 := of_decide_eq_true hc; rw [hk1 (by omega), List.getElem?_map, hy0 (by omega)]; rfl)) ?_
 refine D2 rfl (H1 rfl rfl rfl) (fun hc => V7 rfl K8 rfl B4 (A6 rfl hc) rfl) ?_
 refine D2 rfl (H1 rfl rfl rfl) (fun hc => N9 rfl (A6 rfl hc) C2 rfl) ?_
 refine D2 rfl (H1 rfl rfl rfl) (fun hc => B1 0 rfl K8 rfl B4 (A0 rfl) rfl) ?_
 refine D2 rfl (H1 rfl rfl rfl) (fun hc => B0 0 rfl (A6 rfl hc) rfl C2 rfl) ?_
 refine D2 rfl (H1 rfl rfl rfl) (fun hc => O8 rfl (A6 rfl hc) (A6 rfl hc)) ?_
 refine B2 rfl rfl (I1 rfl (A0 rfl) (F9 rfl)) ?_
 refine P2 ?_
 refine C4 (A0 rfl) ?_ ?_
 ·intro h21
  have hkt : 0 < k ∧ h.Txn < y.Txn := by simpa using h21
  refine C8 (D1 (A2 ?_))
  refine A5 rfl ?_
  refine A1 rfl (P9 rfl (A0 rfl) B6 (by first | omega | (simp only [C9, A8, szR] at *; omega))) ?_
  refine B5 rfl ?_
  refine A4 ?_
  refine k0 ?_
  refine L9 k (k - 1) ?_ ?_ (K0 ⟨congrArg (fun z => some (AV.int z)) (by omega), rfl, rfl, rfl, trivial⟩)
  ·exact ⟨by omega, fun i z hi hz => if e : k ≤ i then hinv.2 i z e hz else (by have e2 : i = k - 1 := (by omega); subst e2; rw [hy0 hkt.1] at hz; injection hz with hz; subst hz; exact hkt.2)⟩
  omega
 intro h21
 have hng : 0 < k → ¬ h.Txn < y.Txn := fun h9 => by simpa [h9] using h21
 have hput : insT h l = l.take k ++ h :: l.drop k := Af1 hinv.1 (fun i x hi hx => by have h7 := hy0 (by omega); have h8 := hng (by omega); rcases Nat.lt_or_ge i (k - 1) with h6 | h6; (have := AO6 (f := TTold.Txn) hs h6 hx h7; omega); (have : i = k - 1 := (by omega); subst this; rw [hx] at h7; injection h7 with h7; subst h7; omega)) (fun x hx => hinv.2 k x (Nat.le_refl _) hx)
 rw [hput]
 refine G9 ?_
 refine A3 (A2 ?_)
 refine U3 rfl rfl rfl rfl I0 K7 ?_
 intro v24
 refine A5 rfl ?_
 refine A5 rfl ?_
 refine A1 rfl (Ab8 rfl I0 K7 (A0 rfl) (A0 rfl) (by omega) (by first | omega | (simp only [A9]; omega))) ?_
 refine N3 (by' := 24) 0 rfl rfl rfl rfl I0 Tryz.type144 rfl rfl rfl rfl rfl rfl (A0 rfl) (A0 rfl) rfl (by simp only [L6, A9, List.length_drop]; omega) ?_
 intro v28_1
 refine B5 rfl ?_
 refine A4 (A3 ?_)
 refine AWP.le (Z3 [0] 6 rfl rfl (N8 (G2 (i := 0) rfl) J7) Q1) ?_
 refine S3 _ [(1, false), (2, false), (3, false), (5, false), (6, false), (8, false), (0, true), (4, true), (7, true), (9, true)] (by kernel_rfl) (by kernel_rfl) rfl o8 ?_
 refine F1 rfl rfl rfl (fun ext => B9 rfl (A0 rfl)) ?_
 refine F1 rfl rfl rfl (fun ext => B9 rfl (A0 rfl)) ?_
 refine F1 rfl rfl rfl (fun ext => AC7 rfl I0 K7 (A0 rfl) (A0 rfl) (by omega) (by first | omega | (simp only [A9]; omega))) ?_
 refine F1 rfl rfl rfl (fun ext => G5 0 rfl (A0 rfl) rfl a7 K7 rfl) ?_
 refine F1 rfl rfl rfl (fun ext => L2 rfl I0 K7 Tryz.zeroValue144 rfl rfl rfl rfl (D3 (A0 rfl) (F0 _) I2) rfl rfl) ?_
 refine F1 rfl rfl rfl (fun ext => B9 rfl (A0 rfl)) ?_
 refine T5 rfl rfl rfl (Y7 rfl I0 K7) (fun a _ => (by first | exact F3 rfl | exact F3 (List.append_assoc _ _ _) | exact I3)) ?_
 intro v29 _
 refine T5 rfl rfl rfl (O4 (by' := 24) 1 rfl I0 Tryz.type144 rfl rfl rfl rfl rfl rfl (A0 rfl) (A0 rfl) rfl (by simp only [L6, List.nil_append, H5, E4, List.length_drop, I5, A9, A8]; omega)) (fun a _ => (by first | exact F3 rfl | exact F3 (List.append_assoc _ _ _) | exact I3)) ?_
 intro v33_2 _
 refine T5 rfl rfl rfl (O4 (by' := 24) 1 rfl I0 Tryz.type144 rfl rfl rfl rfl rfl rfl (A0 rfl) (A0 rfl) rfl (by simp only [L6, List.nil_append, H5, E4, List.length_drop, I5, A9, A8]; omega)) (fun a _ => (by first | exact F3 rfl | exact F3 (List.append_assoc _ _ _) | exact I3)) ?_
 intro v36_3 _
 refine T5 rfl rfl rfl (O4 (by' := 24) 1 rfl I0 Tryz.type144 rfl rfl rfl rfl rfl rfl (A0 rfl) (A0 rfl) rfl (by simp only [L6, List.nil_append, H5, E4, List.length_drop, I5, A9, A8]; omega)) (fun a _ => (by first | exact F3 rfl | exact F3 (List.append_assoc _ _ _) | exact I3)) ?_
 intro v38_4 _
 refine g6 ?_
 refine B5 rfl ?_
 refine A4 ?_
 refine C5 ?_
 exact M3 [1] v38_4 (trivial) rfl (by first | rfl | exact congrArg (fun z => [Own.arr _ 144 3 z]) (put_csT _ _ _)) (P7 rfl (B8 rfl (by rfl)))
theorem AN0 (l : List TTold) (h : TTold) (hs : l.Pairwise fun a b => a.Txn < b.Txn) (hl : l.length ≤ 1048576) : FSpec Tryz.prog 206 [AV.list 3 (l.map TTold.cs), AV.agg h.cs] (AV.list 3 ((insT h l).map TTold.cs)) :=
  T7 (AF4 l h hs hl) fun x _ => N8 (List.mem_singleton.2 rfl) J7
theorem AR0 (l : List TCell) (w : List TWrite) (t : Int) (ho : CellsOk l) (hs : sizeL TCell.size l ≤ 1048576) (hw : sizeL TWrite.size w ≤ 1048576) (ht1 : 1 ≤ t) : FSpec Tryz.prog 204 [AV.list 2 (l.map TCell.cs), AV.list 3 (w.map TWrite.cs), AV.int t] (AV.tup [AV.list 2 ((putP l w t).1.map TCell.cs), AV.bool (putP l w t).2]) :=
  T7 (BA6 l w t ho hs hw ht1) fun x h => AV0 (H7 (j0 TCell.lcM h 0 rfl fun o ho => List.mem_cons_of_mem _ ho) (H7 M9 V9))
theorem AN1 (l : List Str) (hl : l.length ≤ 4194304) : FSpec Tryz.prog 202 [strs l] (strs l) :=
  T7 (AA7 l hl) fun x _ => N8 (List.mem_singleton.2 rfl) J7
theorem AN2 (a b : Int) : FSpec Tryz.prog 62 [AV.int a, AV.int b] (AV.int (if a < b then b else a)) := by
 refine E9 Tryz.func62 rfl Tryz.ntmps62 rfl ?_
 refine A3 (A2 ?_)
 refine A1 rfl (B7 rfl B6) ?_
 refine A4 (A3 (A3 (A2 ?_)))
 refine A5 rfl ?_
 refine A5 rfl ?_
 refine A1 rfl (O8 rfl (A0 rfl) (A0 rfl)) ?_
 refine A4 ?_
 refine C4 (A0 rfl) ?_ ?_
 ·intro h7
  have k7 := of_decide_eq_true h7; try simp only [A9] at k7
  have h9 := of_decide_eq_true h7
  refine A3 (A2 ?_)
  refine A5 rfl ?_
  refine B5 rfl ?_
  refine A4 ?_
  refine C5 ?_
  exact H9 rfl (B8 rfl (by exact congrArg AV.int (by split <;> omega)))
 intro h7
 have k7 := of_decide_eq_false h7; try simp only [A9] at k7
 have h9 := of_decide_eq_false h7
 refine C8 (A3 (A2 ?_))
 refine A5 rfl ?_
 refine B5 rfl ?_
 refine A4 ?_
 refine C5 ?_
 exact H9 rfl (B8 rfl (by exact congrArg AV.int (by split <;> omega)))
theorem Aq3 (s : TState) (r : TRec) (g : SO s) (hs : s.size ≤ 300000) (hrs : r.size ≤ 300000) : FSpec Tryz.prog 164 [AV.agg s.cs, AV.agg r.cs] (AV.tup [AV.agg (applyS s r).1.cs, AV.bool (applyS s r).2]) := by
 obtain ⟨hs1, hs2, hs3, hs4, hs5⟩ := W1 hs
 have hgc := g.cells
 have hgh := g.hsort
 have hgt := g.tsort
 have hr2 : r.size = sizeL (fun x : Str => x.length) r.Reads + sizeL TWrite.size r.Writes := rfl
 have hr3 := O2 (f := fun x : Str => x.length) (l := r.Reads)
 have hr4 := O2 (f := TWrite.size) (l := r.Writes)
 have hho := AD7 s.Held r.Txn
 have hto := Af2 s.Told r.Txn
 obtain ⟨h, hh⟩ : ∃ h, (heldFO s.Held r.Txn).1 = h := ⟨_, rfl⟩
 have hf1 : hasH s.Held r.Txn = true → findH s.Held r.Txn = some h := fun e => by
  rw [← hho] at e
  unfold heldFO at hh e
  cases hf : findH s.Held r.Txn with
  | none => rw [hf] at e; cases e
  | some x => rw [hf] at hh; exact congrArg some hh
 have hf0 : hasH s.Held r.Txn = false → findH s.Held r.Txn = none := fun e => AI2.2 e
 have hhs : hasH s.Held r.Txn = true → h.size ≤ 300000 ∧ 1 ≤ h.Time := fun e => by
  obtain ⟨h1, h2⟩ := AI1 (hf1 e)
  obtain ⟨i, hi⟩ := List.getElem?_of_mem h1
  exact ⟨(X8 hs2 hi).1, g.times h h1⟩
 have hlen := AF3 s.Held r.Txn
 have hll : (lessH s.Held r.Txn).length ≤ s.Held.length := List.length_filter_le _ _
 refine E9 Tryz.func164 rfl Tryz.ntmps164 rfl ?_
 refine A3 (A2 ?_)
 refine O3 rfl rfl rfl rfl (A0 rfl) ?_
 intro b2
 refine O3 rfl rfl rfl rfl (A0 rfl) ?_
 intro b3
 refine G3 rfl rfl rfl rfl Tryz.zeroValue43 rfl ?_
 intro b4
 refine A1 rfl (B7 rfl F8) ?_
 refine A4 (A3 (A2 ?_))
 refine A1 rfl (G5 2 rfl (A0 rfl) rfl E6 C3 rfl) ?_
 refine A1 rfl (E8 rfl Tryz.call199 rfl (Ai1 s (by omega)) (A7 (A0 rfl) C6)) ?_
 refine G3 rfl rfl rfl rfl Tryz.zeroValue43 rfl ?_
 intro b6
 refine D7 0 rfl rfl rfl (A0 rfl) (A0 rfl) (F0 _) rfl C3 rfl ?_
 refine A4 (A3 (A2 ?_))
 refine A1 rfl (G5 3 rfl (A0 rfl) rfl E6 C3 rfl) ?_
 refine A1 rfl (B1 1 rfl B3 rfl B4 (A0 rfl) rfl) ?_
 refine A1 rfl (B0 2 rfl (A0 rfl) rfl C2 rfl) ?_
 refine A1 rfl (E8 rfl Tryz.call128 rfl (AM8 s r.Txn (by omega)) (A7 (A0 rfl) (A7 (A0 rfl) C6))) ?_
 refine A5 rfl ?_
 refine A1 rfl (I8 rfl (A0 rfl) rfl) ?_
 refine A1 rfl (I8 rfl (A0 rfl) rfl) ?_
 refine G3 rfl rfl rfl rfl Tryz.zeroValue141 rfl ?_
 intro b7
 refine D7 0 rfl rfl rfl (A0 rfl) (A0 rfl) (F0 _) rfl D4 rfl ?_
 refine B5 rfl ?_
 refine A4 (A3 (A2 ?_))
 refine A1 rfl (G5 4 rfl (A0 rfl) rfl E6 C3 rfl) ?_
 refine A1 rfl (B1 1 rfl B3 rfl B4 (A0 rfl) rfl) ?_
 refine A1 rfl (B0 3 rfl (A0 rfl) rfl C2 rfl) ?_
 refine A1 rfl (E8 rfl Tryz.call200 rfl (AM9 s r.Txn (by omega)) (A7 (A0 rfl) (A7 (A0 rfl) C6))) ?_
 refine A5 rfl ?_
 refine A1 rfl (I8 rfl (A0 rfl) rfl) ?_
 refine A1 rfl (I8 rfl (A0 rfl) rfl) ?_
 refine G3 rfl rfl rfl rfl Tryz.zeroValue144 rfl ?_
 intro b9
 refine D7 0 rfl rfl rfl (A0 rfl) (A0 rfl) (F0 _) rfl K7 rfl ?_
 refine B5 rfl ?_
 refine A4 (A3 (D1 (A3 ?_)))
 rw [hh]
 rw [hho, hto]
 refine A2 ?_
 refine A1 rfl (B1 0 rfl B3 rfl B4 (A0 rfl) rfl) ?_
 refine A1 rfl (B0 4 rfl (A0 rfl) rfl C2 rfl) ?_
 refine A1 rfl (O7 rfl (A0 rfl) B6) ?_
 refine B5 rfl ?_
 refine A4 ?_
 refine C4 (A0 rfl) ?_ ?_
 ·intro h29
  have k29 := O1 h29; try simp only [A9] at k29
  have hk : r.Kind = 4 := by simpa using h29
  have he : applyS s r = (⟨r.Time, s.Cells, s.Held, s.Told⟩, decide (s.Floor < r.Time)) := by (unfold applyS; rw [if_pos hk])
  rw [he]
  refine A3 (A2 ?_)
  refine A1 rfl (B1 2 rfl B3 rfl B4 (A0 rfl) rfl) ?_
  refine A1 rfl (B0 4 rfl (A0 rfl) rfl C2 rfl) ?_
  refine A1 rfl (B1 0 rfl C0 rfl B4 (A0 rfl) rfl) ?_
  refine K3 2 rfl rfl rfl (A0 rfl) (A0 rfl) (K4 _ _) rfl B4 rfl ?_
  refine A4 (A3 ?_)
  refine AWP.le (H4 [2, 3, 3] rfl) ?_
  refine Y3 _ 7 (.pure 0 (.pure 1 (.pure 2 (.pure 3 (.pure 4 (.pure 5 (.e1 6 .nil))))))) (by kernel_rfl) (by kernel_rfl) rfl (V3 3) ?_
  refine G6 rfl rfl rfl (fun ext => G5 0 rfl (A0 rfl) rfl E6 C3 rfl) ?_
  refine G6 rfl rfl rfl (fun ext => B1 2 rfl B3 rfl B4 (A0 rfl) rfl) ?_
  refine G6 rfl rfl rfl (fun ext => B0 1 rfl (A0 rfl) rfl C2 rfl) ?_
  refine G6 rfl rfl rfl (fun ext => B1 0 rfl C0 rfl B4 (A0 rfl) rfl) ?_
  refine G6 rfl rfl rfl (fun ext => B0 2 rfl (A0 rfl) rfl C2 rfl) ?_
  refine G6 rfl rfl rfl (fun ext => O8 rfl (A0 rfl) (A0 rfl)) ?_
  refine X1 ?_
  refine AL6 rfl rfl rfl (n1 5 rfl rfl (A0 rfl) (A0 rfl) (F0 _) rfl C3 rfl) (fun a _ => (by first | exact F3 rfl | exact F3 (List.append_assoc _ _ _) | exact I3)) ?_
  intro _ _
  refine d7 ?_
  refine B5 rfl ?_
  refine A4 ?_
  refine C5 ?_
  exact i6 rfl (by decide) (F2 (M2 (ys := _) 5 rfl rfl E6 C3 rfl) (F2 (B8 rfl (by rfl)) L7))
 intro h29
 have k29 := O0 h29; try simp only [A9] at k29
 have hk4 : r.Kind ≠ 4 := by simpa using h29
 refine A3 (A2 ?_)
 refine A5 rfl ?_
 refine B5 rfl ?_
 refine A4 ?_
 refine C4 (A0 rfl) ?_ ?_
 ·intro h42
  have he : applyS s r = (s, false) := by (unfold applyS; rw [if_neg hk4, if_pos h42])
  rw [he]
  refine A3 (A2 ?_)
  refine A1 rfl (G5 2 rfl (A0 rfl) rfl E6 C3 rfl) ?_
  refine D7 3 rfl rfl rfl (A0 rfl) (A0 rfl) (F0 _) rfl C3 rfl ?_
  refine A1 rfl (B7 rfl F8) ?_
  refine A4 ?_
  refine C5 ?_
  exact i6 rfl (by decide) (F2 (M2 (ys := _) 3 rfl rfl E6 C3 rfl) (F2 (B8 rfl (by rfl)) L7))
 intro h42
 have hT : hasT s.Told r.Txn = false := h42
 have hnT : ¬ hasT s.Told r.Txn = true := by (rw [hT]; decide)
 refine A3 (A2 ?_)
 refine A1 rfl (B1 0 rfl B3 rfl B4 (A0 rfl) rfl) ?_
 refine A1 rfl (B0 4 rfl (A0 rfl) rfl C2 rfl) ?_
 refine A1 rfl (O7 rfl (A0 rfl) B6) ?_
 refine B5 rfl ?_
 refine A4 ?_
 refine C4 (A0 rfl) ?_ ?_
 ·intro h45
  have k45 := O1 h45; try simp only [A9] at k45
  have hk1 : r.Kind = 1 := by simpa using h45
  have he : applyS s r = (⟨r.Time, s.Cells, insH (hOf r) s.Held, s.Told⟩, (!hasH s.Held r.Txn && decide (s.Floor < r.Time)) && fits s r.Reads r.Writes) := by (unfold applyS; rw [if_neg hk4, if_neg hnT, if_pos hk1])
  rw [he]
  refine A3 ?_
  refine S3 _ [(0, false), (1, false), (2, false), (3, false), (4, false), (5, false), (6, false), (7, false), (8, false), (9, false), (10, false), (12, false), (13, false), (11, true), (14, true), (15, false)] (by kernel_rfl) (by kernel_rfl) rfl o8 ?_
  refine F1 rfl rfl rfl (fun ext => B1 2 rfl C0 rfl G4 (A0 rfl) rfl) ?_
  refine F1 rfl rfl rfl (fun ext => B0 2 rfl (A0 rfl) rfl L8 rfl) ?_
  refine F1 rfl rfl rfl (fun ext => B1 1 rfl B3 rfl B4 (A0 rfl) rfl) ?_
  refine F1 rfl rfl rfl (fun ext => B0 4 rfl (A0 rfl) rfl C2 rfl) ?_
  refine F1 rfl rfl rfl (fun ext => B1 2 rfl B3 rfl B4 (A0 rfl) rfl) ?_
  refine F1 rfl rfl rfl (fun ext => B0 4 rfl (A0 rfl) rfl C2 rfl) ?_
  refine F1 rfl rfl rfl (fun ext => B1 3 rfl B3 rfl B4 (A0 rfl) rfl) ?_
  refine F1 rfl rfl rfl (fun ext => B0 4 rfl (A0 rfl) rfl C2 rfl) ?_
  refine F1 rfl rfl rfl (fun ext => B1 4 rfl B3 rfl N0 (A0 rfl) rfl) ?_
  refine F1 rfl rfl rfl (fun ext => B0 4 rfl (A0 rfl) rfl P1 rfl) ?_
  refine F1 rfl rfl rfl (fun ext => E8 rfl Tryz.call202 rfl (AN1 _ (by omega)) (A7 (A0 rfl) C6)) ?_
  refine F1 rfl rfl rfl (fun ext => B1 5 rfl B3 rfl K2 (A0 rfl) rfl) ?_
  refine F1 rfl rfl rfl (fun ext => B0 4 rfl (A0 rfl) rfl M1 rfl) ?_
  refine T5 rfl rfl rfl (Y7 rfl G0 H6) (fun a _ => (by first | exact F3 rfl | exact F3 (List.append_assoc _ _ _) | exact I3)) ?_
  intro v60 _
  refine T5 rfl rfl rfl (Ae9 [6] (fun _ => rfl) (fun _ => N8 (G2 (i := 0) rfl) J7) (fun _ => Ae4) (O4 (by' := 40) 6 rfl G0 Tryz.type101 rfl rfl rfl rfl rfl rfl (A0 rfl) (A0 rfl) rfl (by simp only [L6, A9]; omega))) (fun a _ => (by first | exact F3 rfl | exact F3 (List.append_assoc _ _ _) | exact I3)) ?_
  intro v63_1 _
  refine F1 rfl rfl rfl (fun ext => P0 (places := #[(0, 1), (1, 1), (2, 1), (3, 1), (4, 1)]) rfl F5 Tryz.zeroValue141 (fun w => by kernel_rfl) rfl (D3 (A0 rfl) (K4 _ _) (D3 (A0 rfl) (K4 _ _) (D3 (A0 rfl) (K4 _ _) (D3 (A0 rfl) (U8 _ _) (D3 (A0 rfl) (U8 _ _) I2))))) rfl) ?_
  refine g6 ?_
  refine A1 rfl (E8 rfl Tryz.call201 rfl (An2 s.Held (hOf r) hgh (by omega)) (A7 (A0 rfl) (A7 (A0 rfl) C6))) ?_
  refine A1 rfl (B1 2 rfl C0 rfl G4 (A0 rfl) rfl) ?_
  refine K3 2 rfl rfl rfl (A0 rfl) (A0 rfl) (U8 _ _) rfl G4 rfl ?_
  refine A4 (A3 (A2 ?_))
  refine A1 rfl (B1 2 rfl B3 rfl B4 (A0 rfl) rfl) ?_
  refine A1 rfl (B0 4 rfl (A0 rfl) rfl C2 rfl) ?_
  refine A1 rfl (B1 0 rfl C0 rfl B4 (A0 rfl) rfl) ?_
  refine K3 2 rfl rfl rfl (A0 rfl) (A0 rfl) (K4 _ _) rfl B4 rfl ?_
  refine A4 (A3 ?_)
  refine AWP.le (H4 [2, 3, 3] rfl) ?_
  refine Y3 _ 19 (.pure 0 (.pure 1 (.pure 2 (.pure 3 (.pure 4 (.pure 5 (.pure 6 (.pure 7 (.pure 8 (.pure 9 (.pure 10 (.pure 11 (.pure 12 (.pure 13 (.pure 14 (.pure 15 (.pure 16 (.pure 17 (.e1 18 .nil))))))))))))))))))) (by kernel_rfl) (by kernel_rfl) rfl (V3 3) ?_
  refine G6 rfl rfl rfl (fun ext => G5 0 rfl (A0 rfl) rfl E6 C3 rfl) ?_
  refine G6 rfl rfl rfl (fun ext => B9 rfl (A0 rfl)) ?_
  refine G6 rfl rfl rfl (fun ext => M5 rfl (A0 rfl)) ?_
  refine G6 rfl rfl rfl (fun ext => B9 rfl (A0 rfl)) ?_
  refine W5 rfl rfl (H1 rfl rfl rfl) (fun hc ext => B1 2 rfl B3 rfl B4 (A0 rfl) rfl) ?_
  refine W5 rfl rfl (H1 rfl rfl rfl) (fun hc ext => B0 1 rfl (A6 rfl hc) rfl C2 rfl) ?_
  refine W5 rfl rfl (H1 rfl rfl rfl) (fun hc ext => B1 0 rfl C0 rfl B4 (A0 rfl) rfl) ?_
  refine W5 rfl rfl (H1 rfl rfl rfl) (fun hc ext => B0 2 rfl (A6 rfl hc) rfl C2 rfl) ?_
  refine W5 rfl rfl (H1 rfl rfl rfl) (fun hc ext => O8 rfl (A6 rfl hc) (A6 rfl hc)) ?_
  refine G6 rfl rfl rfl (fun ext => I1 rfl (A0 rfl) (F9 rfl)) ?_
  refine G6 rfl rfl rfl (fun ext => B9 rfl (A0 rfl)) ?_
  refine W5 rfl rfl (H1 rfl rfl rfl) (fun hc ext => G5 2 rfl (A0 rfl) rfl E6 C3 rfl) ?_
  refine W5 rfl rfl (H1 rfl rfl rfl) (fun hc ext => B1 4 rfl B3 rfl N0 (A0 rfl) rfl) ?_
  refine W5 rfl rfl (H1 rfl rfl rfl) (fun hc ext => B0 1 rfl (A6 rfl hc) rfl P1 rfl) ?_
  refine W5 rfl rfl (H1 rfl rfl rfl) (fun hc ext => B1 5 rfl B3 rfl K2 (A0 rfl) rfl) ?_
  refine W5 rfl rfl (H1 rfl rfl rfl) (fun hc ext => B0 1 rfl (A6 rfl hc) rfl M1 rfl) ?_
  refine W5 rfl rfl (H1 rfl rfl rfl) (fun hc ext => E8 rfl Tryz.call203 rfl (AX4 s r.Reads r.Writes (by omega) (by omega)) (A7 (A6 rfl hc) (A7 (A6 rfl hc) (A7 (A6 rfl hc) C6)))) ?_
  refine G6 rfl rfl rfl (fun ext => I1 rfl (A0 rfl) (F9 rfl)) ?_
  refine X1 ?_
  refine AL6 rfl rfl rfl (n1 5 rfl rfl (A0 rfl) (A0 rfl) (F0 _) rfl C3 rfl) (fun a _ => (by first | exact F3 rfl | exact F3 (List.append_assoc _ _ _) | exact I3)) ?_
  intro _ _
  refine d7 ?_
  refine B5 rfl ?_
  refine A4 ?_
  refine C5 ?_
  exact i6 rfl (by decide) (F2 (M2 (ys := _) 5 rfl rfl E6 C3 rfl) (F2 (B8 rfl (by rfl)) L7))
 intro h45
 have k45 := O0 h45; try simp only [A9] at k45
 have hk1 : r.Kind ≠ 1 := by simpa using h45
 have hap : applyS s r = (if r.Yes = true then (match findH s.Held r.Txn with | none => (s, false) | some h => if r.Time < h.Time then (s, false) else if (putP s.Cells h.Writes r.Time).2 = true then (doneS s r (if s.Floor < r.Time then r.Time else s.Floor) (putP s.Cells h.Writes r.Time).1, true) else (s, false)) else (doneS s r s.Floor s.Cells, true)) := by (unfold applyS; rw [if_neg hk4, if_neg hnT, if_neg hk1]; rfl)
 refine A3 (A2 ?_)
 refine A1 rfl (B1 6 rfl B3 rfl J1 (A0 rfl) rfl) ?_
 refine A1 rfl (B0 4 rfl (A0 rfl) rfl K9 rfl) ?_
 refine B5 rfl ?_
 refine A4 ?_
 refine C4 (A0 rfl) ?_ ?_
 ·intro h88
  refine A3 (A3 (A2 ?_))
  refine A5 rfl ?_
  refine A1 rfl (M5 rfl (A0 rfl)) ?_
  refine A5 rfl ?_
  refine H8 rfl (fun hc => B1 1 rfl F5 rfl B4 (A0 rfl) rfl) ?_
  refine H8 rfl (fun hc => B0 1 rfl (A6 rfl hc) rfl C2 rfl) ?_
  refine H8 rfl (fun hc => B1 2 rfl B3 rfl B4 (A0 rfl) rfl) ?_
  refine H8 rfl (fun hc => B0 4 rfl (A6 rfl hc) rfl C2 rfl) ?_
  refine H8 rfl (fun hc => O8 rfl (A6 rfl hc) (A6 rfl hc)) ?_
  refine A1 rfl (R5 rfl (A0 rfl) (F9 rfl)) ?_
  refine A4 ?_
  refine C4 (A0 rfl) ?_ ?_
  ·intro h99
   have he : applyS s r = (s, false) := by (rw [hap, if_pos h88]; cases e : hasH s.Held r.Txn with | false => (rw [hf0 e]) | true => (rw [hf1 e]; dsimp only; rw [if_pos (by rw [e] at h99; simpa using h99)]))
   rw [he]
   refine A3 (A2 ?_)
   refine A1 rfl (G5 2 rfl (A0 rfl) rfl E6 C3 rfl) ?_
   refine D7 3 rfl rfl rfl (A0 rfl) (A0 rfl) (F0 _) rfl C3 rfl ?_
   refine A1 rfl (B7 rfl F8) ?_
   refine A4 ?_
   refine C5 ?_
   exact i6 rfl (by decide) (F2 (M2 (ys := _) 3 rfl rfl E6 C3 rfl) (F2 (B8 rfl (by rfl)) L7))
  intro h99
  simp only [Bool.or_eq_false_iff, Bool.not_eq_false', decide_eq_false_iff_not] at h99
  obtain ⟨hhas, hnlt⟩ := h99
  obtain ⟨hz1, hz2⟩ := hhs hhas
  have hz3 : h.size = sizeL (fun x => x.length) h.Reads + sizeL TWrite.size h.Writes := rfl
  refine C8 (A3 (A2 ?_))
  refine A1 rfl (B1 1 rfl C0 rfl N2 (A0 rfl) rfl) ?_
  refine A1 rfl (B0 5 rfl (A0 rfl) rfl O9 rfl) ?_
  refine A1 rfl (B1 4 rfl F5 rfl K2 (A0 rfl) rfl) ?_
  refine A1 rfl (B0 1 rfl (A0 rfl) rfl M1 rfl) ?_
  refine A1 rfl (B1 2 rfl B3 rfl B4 (A0 rfl) rfl) ?_
  refine A1 rfl (B0 4 rfl (A0 rfl) rfl C2 rfl) ?_
  refine A1 rfl (E8 rfl Tryz.call204 rfl (AR0 s.Cells h.Writes r.Time hgc (by omega) (by omega) (by omega)) (A7 (A0 rfl) (A7 (A0 rfl) (A7 (A0 rfl) C6)))) ?_
  refine A5 rfl ?_
  refine A1 rfl (I8 rfl (A0 rfl) rfl) ?_
  refine A1 rfl (I8 rfl (A0 rfl) rfl) ?_
  refine B5 rfl ?_
  refine B5 rfl ?_
  refine A4 (A3 (A3 (A2 ?_)))
  refine A5 rfl ?_
  refine A1 rfl (M5 rfl (A0 rfl)) ?_
  refine A4 ?_
  refine C4 (A0 rfl) ?_ ?_
  ·intro h112
   have he : applyS s r = (s, false) := by (rw [hap, if_pos h88, hf1 hhas]; dsimp only; rw [if_neg (by omega), if_neg (by simpa using h112)])
   rw [he]
   refine A3 (A2 ?_)
   refine A1 rfl (G5 2 rfl (A0 rfl) rfl E6 C3 rfl) ?_
   refine D7 3 rfl rfl rfl (A0 rfl) (A0 rfl) (F0 _) rfl C3 rfl ?_
   refine A1 rfl (B7 rfl F8) ?_
   refine A4 ?_
   refine C5 ?_
   exact i6 rfl (by decide) (F2 (M2 (ys := _) 3 rfl rfl E6 C3 rfl) (F2 (B8 rfl (by rfl)) L7))
  intro h112
  have he : applyS s r = (doneS s r (if s.Floor < r.Time then r.Time else s.Floor) (putP s.Cells h.Writes r.Time).1, true) := by (rw [hap, if_pos h88, hf1 hhas]; dsimp only; rw [if_neg (by omega), if_pos (by simpa using h112)])
  rw [he]
  unfold doneS
  refine C8 (A3 (A2 ?_))
  refine A5 rfl ?_
  refine A1 rfl (B1 1 rfl C0 rfl N2 (A0 rfl) rfl) ?_
  refine K3 2 rfl rfl rfl (A0 rfl) (A0 rfl) (U8 _ _) rfl N2 rfl ?_
  refine A4 (A2 ?_)
  refine A1 rfl (B1 0 rfl C0 rfl B4 (A0 rfl) rfl) ?_
  refine A1 rfl (B0 5 rfl (A0 rfl) rfl C2 rfl) ?_
  refine A1 rfl (B1 2 rfl B3 rfl B4 (A0 rfl) rfl) ?_
  refine A1 rfl (B0 4 rfl (A0 rfl) rfl C2 rfl) ?_
  refine A1 rfl (E8 rfl Tryz.call62 rfl (AN2 _ _) (A7 (A0 rfl) (A7 (A0 rfl) C6))) ?_
  refine A1 rfl (B1 0 rfl C0 rfl B4 (A0 rfl) rfl) ?_
  refine K3 2 rfl rfl rfl (A0 rfl) (A0 rfl) (K4 _ _) rfl B4 rfl ?_
  refine A4 (A3 (A2 ?_))
  refine A1 rfl (B1 2 rfl C0 rfl G4 (A0 rfl) rfl) ?_
  refine A1 rfl (B0 2 rfl (A0 rfl) rfl L8 rfl) ?_
  refine A1 rfl (B1 1 rfl B3 rfl B4 (A0 rfl) rfl) ?_
  refine A1 rfl (B0 4 rfl (A0 rfl) rfl C2 rfl) ?_
  refine A1 rfl (E8 rfl Tryz.call205 rfl (Af4 s.Held r.Txn (by omega)) (A7 (A0 rfl) (A7 (A0 rfl) C6))) ?_
  refine A1 rfl (B1 2 rfl C0 rfl G4 (A0 rfl) rfl) ?_
  refine K3 2 rfl rfl rfl (A0 rfl) (A0 rfl) (U8 _ _) rfl G4 rfl ?_
  refine A4 (A3 (A2 ?_))
  refine A1 rfl (B1 3 rfl C0 rfl N4 (A0 rfl) rfl) ?_
  refine A1 rfl (B0 2 rfl (A0 rfl) rfl T4 rfl) ?_
  refine A1 rfl (B1 1 rfl B3 rfl B4 (A0 rfl) rfl) ?_
  refine A1 rfl (B0 4 rfl (A0 rfl) rfl C2 rfl) ?_
  refine A1 rfl (B1 6 rfl B3 rfl J1 (A0 rfl) rfl) ?_
  refine A1 rfl (B0 4 rfl (A0 rfl) rfl K9 rfl) ?_
  refine A1 rfl (B1 2 rfl B3 rfl B4 (A0 rfl) rfl) ?_
  refine A1 rfl (B0 4 rfl (A0 rfl) rfl C2 rfl) ?_
  refine A1 rfl (P0 (places := #[(0, 1), (1, 1), (2, 1)]) rfl K8 Tryz.zeroValue144 (fun w => by kernel_rfl) rfl (D3 (A0 rfl) (K4 _ _) (D3 (A0 rfl) (W7 _) (D3 (A0 rfl) (K4 _ _) I2))) rfl) ?_
  refine A1 rfl (E8 rfl Tryz.call206 rfl (AN0 s.Told ⟨r.Txn, r.Yes, r.Time⟩ hgt (by omega)) (A7 (A0 rfl) (A7 (A0 rfl) C6))) ?_
  refine A1 rfl (B1 3 rfl C0 rfl N4 (A0 rfl) rfl) ?_
  refine K3 2 rfl rfl rfl (A0 rfl) (A0 rfl) (U8 _ _) rfl N4 rfl ?_
  refine A4 (A3 (A2 ?_))
  refine A1 rfl (G5 2 rfl (A0 rfl) rfl E6 C3 rfl) ?_
  refine D7 3 rfl rfl rfl (A0 rfl) (A0 rfl) (F0 _) rfl C3 rfl ?_
  refine A1 rfl (B7 rfl F8) ?_
  refine A4 ?_
  refine C5 ?_
  exact i6 rfl (by decide) (F2 (M2 (ys := _) 3 rfl rfl E6 C3 rfl) (F2 (B8 rfl (by rfl)) L7))
 intro h88
 have he : applyS s r = (doneS s r s.Floor s.Cells, true) := by (rw [hap, if_neg (by rw [h88]; decide)])
 rw [he]
 unfold doneS
 refine C8 (A3 (A2 ?_))
 refine A1 rfl (B1 2 rfl C0 rfl G4 (A0 rfl) rfl) ?_
 refine A1 rfl (B0 2 rfl (A0 rfl) rfl L8 rfl) ?_
 refine A1 rfl (B1 1 rfl B3 rfl B4 (A0 rfl) rfl) ?_
 refine A1 rfl (B0 4 rfl (A0 rfl) rfl C2 rfl) ?_
 refine A1 rfl (E8 rfl Tryz.call205 rfl (Af4 s.Held r.Txn (by omega)) (A7 (A0 rfl) (A7 (A0 rfl) C6))) ?_
 refine A1 rfl (B1 2 rfl C0 rfl G4 (A0 rfl) rfl) ?_
 refine K3 2 rfl rfl rfl (A0 rfl) (A0 rfl) (U8 _ _) rfl G4 rfl ?_
 refine A4 (A3 (A2 ?_))
 refine A1 rfl (B1 3 rfl C0 rfl N4 (A0 rfl) rfl) ?_
 refine A1 rfl (B0 2 rfl (A0 rfl) rfl T4 rfl) ?_
 refine A1 rfl (B1 1 rfl B3 rfl B4 (A0 rfl) rfl) ?_
 refine A1 rfl (B0 4 rfl (A0 rfl) rfl C2 rfl) ?_
 refine A1 rfl (B1 6 rfl B3 rfl J1 (A0 rfl) rfl) ?_
 refine A1 rfl (B0 4 rfl (A0 rfl) rfl K9 rfl) ?_
 refine A1 rfl (B1 2 rfl B3 rfl B4 (A0 rfl) rfl) ?_
 refine A1 rfl (B0 4 rfl (A0 rfl) rfl C2 rfl) ?_
 refine A1 rfl (P0 (places := #[(0, 1), (1, 1), (2, 1)]) rfl K8 Tryz.zeroValue144 (fun w => by kernel_rfl) rfl (D3 (A0 rfl) (K4 _ _) (D3 (A0 rfl) (W7 _) (D3 (A0 rfl) (K4 _ _) I2))) rfl) ?_
 refine A1 rfl (E8 rfl Tryz.call206 rfl (AN0 s.Told ⟨r.Txn, r.Yes, r.Time⟩ hgt (by omega)) (A7 (A0 rfl) (A7 (A0 rfl) C6))) ?_
 refine A1 rfl (B1 3 rfl C0 rfl N4 (A0 rfl) rfl) ?_
 refine K3 2 rfl rfl rfl (A0 rfl) (A0 rfl) (U8 _ _) rfl N4 rfl ?_
 refine A4 (A3 (A2 ?_))
 refine A1 rfl (G5 2 rfl (A0 rfl) rfl E6 C3 rfl) ?_
 refine D7 3 rfl rfl rfl (A0 rfl) (A0 rfl) (F0 _) rfl C3 rfl ?_
 refine A1 rfl (B7 rfl F8) ?_
 refine A4 ?_
 refine C5 ?_
 exact i6 rfl (by decide) (F2 (M2 (ys := _) 3 rfl rfl E6 C3 rfl) (F2 (B8 rfl (by rfl)) L7))
end Go.Proofs.YtkegepoihkhihaaGreat

set_option maxHeartbeats 1000000
namespace Go.M
open Go.AV
end Go.M
namespace Go.Proofs.YtkegepoihkhihaaGreat
open Go Go.AV Go.M
attribute [local irreducible] OpW OpA OpS AWP FSpec ESpec GSpec OpE RetOk RetOkG RvDen Le Ev GuardIs SrcIs Int.tmod Int.tdiv IntKind.wrap
theorem AT7 (s : TState) (hs : s.size ≤ 1048576) : FSpec Tryz.prog 45 [AV.agg s.cs] (AV.bool (goodState s)) := by
 refine E9 Tryz.func45 rfl Tryz.ntmps45 rfl ?_
 refine A3 (A2 ?_)
 refine O3 rfl rfl rfl rfl (A0 rfl) ?_
 intro b1
 refine A1 rfl (B7 rfl F8) ?_
 refine A4 (A3 (A2 ?_))
 refine A1 rfl (G5 0 rfl (A0 rfl) rfl E6 C3 rfl) ?_
 refine A1 rfl (E8 rfl Tryz.call80 rfl (AX3 _ (by first | assumption | omega)) (A7 (A0 rfl) C6)) ?_
 refine B5 rfl ?_
 refine A4 ?_
 refine C5 ?_
 exact H9 rfl (B8 rfl (by first | rfl | (refine congrArg AV.bool ?_; simp_all; done)))
theorem of_own (l : List TRec) (hl : l.length ≤ 60) (hr : ∀ r ∈ l, r.size ≤ 1100) : GSpec Tryz.prog 107 [AV.list 7 (l.map TRec.cs)] [] (fun _ : Value => True) (fun x => [.arr x 4 1 ((didFrom zState l).map fun b => [AV.bool b])]) (fun x => AV.tup [AV.agg (stFrom zState l).cs, AV.is x]) := by
 have hgs : ∀ i, SO (stFrom zState (l.take i)) := fun i => AO7 Aa6
 have hsz : ∀ i, (stFrom zState (l.take i)).size ≤ 300000 := fun i => by
  have h1 := AI6 (stFrom zState (l.take i))
  have h2 := AC2 (m := 1100) (s := zState) (l := l.take i) fun r hr2 => hr r (List.mem_of_mem_take hr2)
  have h3 : phi zState = 0 := rfl
  have h4 : (l.take i).length ≤ 60 := by rw [E4]; omega
  have h5 : (l.take i).length * (3 * (1 + 1100) + 1) ≤ 60 * 3304 := Nat.mul_le_mul h4 (by decide)
  omega
 refine I9 Tryz.func107 rfl Tryz.ntmps107 rfl ?_
 refine A3 (A2 ?_)
 refine G3 rfl rfl rfl rfl Tryz.zeroValue43 rfl ?_
 intro b2
 refine A1 rfl (B7 rfl M4) ?_
 refine A4 (A3 (A2 ?_))
 refine G3 rfl rfl rfl rfl Tryz.zeroValue43 rfl ?_
 intro b4
 refine A4 (A3 (A2 ?_))
 refine X5 4 1 rfl rfl rfl rfl M4 ?_
 intro v5
 refine A4 (A3 (A3 ?_))
 refine AWP.le (AA6 1 1 2 rfl rfl Q1) ?_
 refine AWP.le (AA6 1 2 5 rfl rfl Q1) ?_
 refine AWP.le (AA6 1 3 3 rfl rfl Q1) ?_
 refine A2 ?_
 refine A5 rfl ?_
 refine A1 rfl (H2 rfl I7 (A0 rfl)) ?_
 refine A1 rfl (B9 rfl B6) ?_
 refine A4 (D1 ?_)
 refine AWP.le (H4 [1, 0] rfl) ?_
 refine Z4 [(2, _), (3, _), (4, _), (10, _), (11, _)] _ (fun (i : Nat) (v : Value) (bs : List Bool) => i ≤ l.length ∧ bs = didFrom zState (l.take i) ∧ bs.length ≤ i) (fun (i : Nat) (v : Value) (bs : List Bool) => [.box b4 43 (stFrom zState (l.take i)).cs, .arr v 4 1 (bs.map fun b => [AV.bool b])]) (fun (i : Nat) (v : Value) (bs : List Bool) => [(5, AV.is v), (12, AV.int i)]) (fun (i : Nat) (v : Value) (bs : List Bool) => l.length - i) (0) (v5) ([]) ?_ (S6 (by rfl) ⟨rfl, rfl, rfl, rfl, rfl, rfl, rfl, trivial⟩) ?_
 ·exact ⟨Nat.zero_le _, rfl, Nat.le_refl _⟩
 intro i v bs hinv
 refine A3 (A2 ?_)
 refine A1 rfl (K5 rfl (A0 rfl) (A0 rfl)) ?_
 refine A4 (A3 ?_)
 refine C4 (A0 rfl) ?_ ?_
 ·intro h13
  have k13 := of_decide_eq_true h13; try simp only [A9] at k13
  have hlt : i < l.length := by omega
  obtain ⟨r, hx⟩ := get_some hlt
  have hgr := hr r (G2 hx)
  have hgi := hgs i
  have hsi := hsz i
  refine C8 (A3 (D1 (A3 (A2 ?_))))
  refine A1 rfl (J4 rfl I7 G1 (A0 rfl) (A0 rfl) hx (by first | omega | (simp only [C9, A8, szR] at *; omega))) ?_
  refine A1 rfl (L4 rfl (A0 rfl) N1 G1) ?_
  refine G3 rfl rfl rfl rfl Tryz.zeroValue104 rfl ?_
  intro b7
  refine D7 0 rfl rfl rfl (A0 rfl) (A0 rfl) (F0 _) rfl G1 rfl ?_
  refine A4 (A3 (A2 ?_))
  refine A1 rfl (G5 1 rfl (A0 rfl) rfl E6 C3 rfl) ?_
  refine A1 rfl (G5 0 rfl (A0 rfl) rfl N1 G1 rfl) ?_
  refine A1 rfl (E8 rfl Tryz.call164 rfl (Aq3 (stFrom zState (l.take i)) r hgi (by omega) (by omega)) (A7 (A0 rfl) (A7 (A0 rfl) C6))) ?_
  refine A5 rfl ?_
  refine A1 rfl (I8 rfl (A0 rfl) rfl) ?_
  refine A1 rfl (I8 rfl (A0 rfl) rfl) ?_
  refine G3 rfl rfl rfl rfl Tryz.zeroValue43 rfl ?_
  intro b8
  refine D7 0 rfl rfl rfl (A0 rfl) (A0 rfl) (F0 _) rfl C3 rfl ?_
  refine B5 rfl ?_
  refine A4 (A3 (A3 (A2 ?_)))
  refine A5 rfl ?_
  refine A4 ?_
  refine C4 (A0 rfl) ?_ ?_
  ·intro h22
   have hstep : (applyS (stFrom zState (l.take i)) r).1 = stepS (stFrom zState (l.take i)) r := by (unfold stepS; rw [if_pos h22])
   refine A2 ?_
   refine A1 rfl (G5 0 rfl (A0 rfl) rfl E6 C3 rfl) ?_
   refine D7 2 rfl rfl rfl (A0 rfl) (A0 rfl) (F0 _) rfl C3 rfl ?_
   refine A4 (A2 ?_)
   refine A5 rfl ?_
   refine A5 rfl ?_
   refine A1 rfl (L2 rfl V4 J1 Tryz.zeroValue4 rfl rfl rfl rfl (D3 (A0 rfl) (W7 _) I2) rfl rfl) ?_
   refine N3 (by' := 1) 3 rfl rfl rfl rfl V4 Tryz.type4 rfl rfl rfl rfl rfl rfl (A0 rfl) (A0 rfl) rfl (by first | omega | (simp only [C9, A8, szR] at *; omega)) ?_
   intro v27_1
   refine B5 rfl ?_
   refine A4 (A2 ?_)
   refine A1 rfl (G7 rfl (A0 rfl) B6 (by first | omega | (simp only [C9, A8, szR] at *; omega))) ?_
   refine A5 rfl ?_
   refine A4 ?_
   refine X0 i v bs (i + 1) (v27_1) (bs ++ [(applyS (stFrom zState (l.take i)) r).2]) ?_ ?_ (Le.trans (H4 [0, 0, 0, 0] rfl) (L5 2 (by first | (rw [List.map_append, w5 hx, ← hstep]; rfl) | rfl) ⟨rfl, rfl, rfl, rfl, rfl, rfl, rfl, trivial⟩))
   ·exact ⟨by omega, by rw [r6 hx, hinv.2.1], by rw [H5]; simp; omega⟩
   omega
  intro h22
  have hstep : stFrom zState (l.take i) = stepS (stFrom zState (l.take i)) r := by (conv => rhs; unfold stepS; rw [if_neg (by rw [h22]; decide)])
  refine C8 (A2 ?_)
  refine A5 rfl ?_
  refine A5 rfl ?_
  refine A1 rfl (L2 rfl V4 J1 Tryz.zeroValue4 rfl rfl rfl rfl (D3 (A0 rfl) (W7 _) I2) rfl rfl) ?_
  refine N3 (by' := 1) 3 rfl rfl rfl rfl V4 Tryz.type4 rfl rfl rfl rfl rfl rfl (A0 rfl) (A0 rfl) rfl (by first | omega | (simp only [C9, A8, szR] at *; omega)) ?_
  intro v27_2
  refine B5 rfl ?_
  refine A4 (A2 ?_)
  refine A1 rfl (G7 rfl (A0 rfl) B6 (by first | omega | (simp only [C9, A8, szR] at *; omega))) ?_
  refine A5 rfl ?_
  refine A4 ?_
  refine X0 i v bs (i + 1) (v27_2) (bs ++ [(applyS (stFrom zState (l.take i)) r).2]) ?_ ?_ (Le.trans (H4 [0, 0, 0, 0] rfl) (L5 2 (by first | (rw [List.map_append, w5 hx, ← hstep]; rfl) | rfl) ⟨rfl, rfl, rfl, rfl, rfl, rfl, rfl, trivial⟩))
  ·exact ⟨by omega, by rw [r6 hx, hinv.2.1], by rw [H5]; simp; omega⟩
  omega
 intro h13
 have k13 := of_decide_eq_false h13; try simp only [A9] at k13
 have hge : i = l.length := by omega
 have hbs := hinv.2.1
 rw [hge, List.take_length] at hbs
 rw [hge, List.take_length, ← hbs]
 refine G9 ?_
 refine A3 (A2 ?_)
 refine A1 rfl (G5 0 rfl (A0 rfl) rfl E6 C3 rfl) ?_
 refine A5 rfl ?_
 refine D7 2 rfl rfl rfl (A0 rfl) (A0 rfl) (F0 _) rfl C3 rfl ?_
 refine B5 rfl ?_
 refine A4 ?_
 refine C5 ?_
 exact M3 [1] v (trivial) rfl (by rfl) (T2 rfl (by decide) (F2 (M2 (ys := _) 2 rfl rfl E6 C3 rfl) (F2 (B8 rfl (by rfl)) L7)))
theorem An3 (l : List TRec) (hl : l.length ≤ 1048576) (hr : ∀ r ∈ l, r.size ≤ 1100) : GSpec Tryz.prog 67 [AV.list 7 (l.map TRec.cs)] [] (fun _ : Value => True) (fun x => [.arr x 4 1 ((stateOfR l).2.1.map fun b => [AV.bool b])]) (fun x => AV.tup [AV.agg (stateOfR l).1.cs, AV.is x, AV.bool (stateOfR l).2.2]) := by
 refine I9 Tryz.func67 rfl Tryz.ntmps67 rfl ?_
 refine A3 (A2 ?_)
 refine G3 rfl rfl rfl rfl Tryz.zeroValue43 rfl ?_
 intro b2
 refine A1 rfl (B7 rfl M4) ?_
 refine A1 rfl (B7 rfl F8) ?_
 refine A4 (A3 (A3 (A2 ?_)))
 refine A5 rfl ?_
 refine A1 rfl (H2 rfl I7 (A0 rfl)) ?_
 refine A1 rfl (B9 rfl B6) ?_
 refine A4 (D1 ?_)
 refine J6 [(0, _), (2, _), (9, _), (10, _)] _ (fun (i : Nat) => i ≤ l.length ∧ l.all goodRec = (l.drop i).all goodRec) (fun (i : Nat) => []) (fun (i : Nat) => [(11, AV.int i)]) (fun (i : Nat) => l.length - i) (0) ?_ (K0 ⟨rfl, rfl, rfl, rfl, rfl, trivial⟩) ?_
 ·exact ⟨Nat.zero_le _, rfl⟩
 intro i hinv
 refine A3 (A2 ?_)
 refine A1 rfl (K5 rfl (A0 rfl) (A0 rfl)) ?_
 refine A4 (A3 ?_)
 refine C4 (A0 rfl) ?_ ?_
 ·intro h12
  have k12 := of_decide_eq_true h12; try simp only [A9] at k12
  have hlt : i < l.length := by omega
  obtain ⟨r, hx⟩ := get_some hlt
  have hgr := hr r (G2 hx)
  refine C8 (A3 (D1 (A3 (A2 ?_))))
  refine A1 rfl (J4 rfl I7 G1 (A0 rfl) (A0 rfl) hx (by first | omega | (simp only [C9, A8, szR] at *; omega))) ?_
  refine A1 rfl (L4 rfl (A0 rfl) N1 G1) ?_
  refine G3 rfl rfl rfl rfl Tryz.zeroValue104 rfl ?_
  intro b6
  refine D7 0 rfl rfl rfl (A0 rfl) (A0 rfl) (F0 _) rfl G1 rfl ?_
  refine A4 (A3 (A2 ?_))
  refine A1 rfl (G5 0 rfl (A0 rfl) rfl N1 G1 rfl) ?_
  refine A1 rfl (E8 rfl Tryz.call106 rfl (AQ3 _ (by first | assumption | omega)) (A7 (A0 rfl) C6)) ?_
  refine A1 rfl (M5 rfl (A0 rfl)) ?_
  refine A4 ?_
  refine C4 (A0 rfl) ?_ ?_
  ·intro h17
   have he : stateOfR l = (zState, [], false) := by (unfold stateOfR; rw [if_neg (by rw [hinv.2, drop_some hx, List.all_cons, AH8, show l4Good r = false by simpa using h17]; simp)])
   rw [he]
   refine A3 (A2 ?_)
   refine A1 rfl (P0 (places := #[(0, 1), (1, 1), (2, 1), (3, 1)]) rfl C0 Tryz.zeroValue43 (fun w => by kernel_rfl) rfl I2 rfl) ?_
   refine D7 1 rfl rfl rfl (A0 rfl) (A0 rfl) (F0 _) rfl C3 rfl ?_
   refine A1 rfl (B7 rfl M4) ?_
   refine A1 rfl (B7 rfl F8) ?_
   refine A4 ?_
   refine C5 ?_
   refine Z9 1 1 2 rfl rfl Q1 ?_
   refine Z9 1 2 5 rfl rfl Q1 ?_
   refine Z9 1 3 3 rfl rfl Q1 ?_
   refine Y2 4 1 ?_
   exact M3 [0] (Value.slice none 0 0) (trivial) rfl (by rfl) (T2 rfl (by decide) (F2 (M2 (ys := _) 2 rfl rfl E6 C3 rfl) (F2 (B8 rfl (by rfl)) (F2 (B8 rfl (by rfl)) L7))))
  intro h17
  refine C8 (A2 ?_)
  refine A1 rfl (G7 rfl (A0 rfl) B6 (by first | omega | (simp only [C9, A8, szR] at *; omega))) ?_
  refine A5 rfl ?_
  refine A4 ?_
  refine L9 i (i + 1) ?_ ?_ (U7 1 ⟨rfl, rfl, rfl, rfl, rfl, trivial⟩)
  ·exact ⟨by omega, by rw [hinv.2, drop_some hx, List.all_cons, AH8, show l4Good r = true by simpa using h17]; rfl⟩
  omega
 intro h12
 have k12 := of_decide_eq_false h12; try simp only [A9] at k12
 have hge : l.length ≤ i := by omega
 have hall : l.all goodRec = true := by (rw [hinv.2, List.drop_eq_nil_of_le hge]; rfl)
 refine G9 ?_
 refine A3 (A3 (A2 ?_))
 refine A5 rfl ?_
 refine A1 rfl (H2 rfl I7 (A0 rfl)) ?_
 refine A1 rfl (O8 rfl (A0 rfl) B6) ?_
 refine A4 ?_
 refine C4 (A0 rfl) ?_ ?_
 ·intro h22
  have k22 := of_decide_eq_true h22; try simp only [A9] at k22
  have he : stateOfR l = (zState, [], false) := by (unfold stateOfR; rw [if_neg (by omega)])
  rw [he]
  refine A3 (A2 ?_)
  refine A1 rfl (P0 (places := #[(0, 1), (1, 1), (2, 1), (3, 1)]) rfl C0 Tryz.zeroValue43 (fun w => by kernel_rfl) rfl I2 rfl) ?_
  refine D7 0 rfl rfl rfl (A0 rfl) (A0 rfl) (F0 _) rfl C3 rfl ?_
  refine A1 rfl (B7 rfl M4) ?_
  refine A1 rfl (B7 rfl F8) ?_
  refine A4 ?_
  refine C5 ?_
  refine Z9 0 1 2 rfl rfl Q1 ?_
  refine Z9 0 2 5 rfl rfl Q1 ?_
  refine Z9 0 3 3 rfl rfl Q1 ?_
  refine Y2 4 1 ?_
  exact M3 [0] (Value.slice none 0 0) (trivial) rfl (by rfl) (T2 rfl (by decide) (F2 (M2 (ys := _) 1 rfl rfl E6 C3 rfl) (F2 (B8 rfl (by rfl)) (F2 (B8 rfl (by rfl)) L7))))
 intro h22
 have k22 := of_decide_eq_false h22; try simp only [A9] at k22
 have hl6 : l.length ≤ 60 := by omega
 have he : stateOfR l = (stFrom zState l, didFrom zState l, true) := if_pos ⟨hl6, hall⟩
 rw [he]
 refine C8 (A3 (A2 ?_))
 refine A5 rfl ?_
 refine J9 [] rfl rfl rfl rfl Tryz.call107 rfl (of_own _ (by first | assumption | omega) (by assumption)) (A7 (A0 rfl) C6) rfl ?_
 intro x26 ok26
 refine A5 rfl ?_
 refine A1 rfl (I8 rfl (A0 rfl) rfl) ?_
 refine A1 rfl (I8 rfl (A0 rfl) rfl) ?_
 refine G3 rfl rfl rfl rfl Tryz.zeroValue43 rfl ?_
 intro b7
 refine D7 0 rfl rfl rfl (A0 rfl) (A0 rfl) (F0 _) rfl C3 rfl ?_
 refine B5 rfl ?_
 refine A4 (A3 (A2 ?_))
 refine A1 rfl (G5 0 rfl (A0 rfl) rfl E6 C3 rfl) ?_
 refine A5 rfl ?_
 refine D7 2 rfl rfl rfl (A0 rfl) (A0 rfl) (F0 _) rfl C3 rfl ?_
 refine B5 rfl ?_
 refine A1 rfl (B7 rfl F8) ?_
 refine A4 ?_
 refine C5 ?_
 exact M3 [1] x26 (trivial) rfl (by rfl) (T2 rfl (by decide) (F2 (M2 (ys := _) 2 rfl rfl E6 C3 rfl) (F2 (B8 rfl (by rfl)) (F2 (B8 rfl (by rfl)) L7))))
theorem Aa7 (l : List TRec) (hl : l.length ≤ 1048576) (hr : ∀ r ∈ l, r.size ≤ 1100) : FSpec Tryz.prog 67 [AV.list 7 (l.map TRec.cs)] (AV.tup [AV.agg (stateOfR l).1.cs, AV.list 1 ((stateOfR l).2.1.map fun b => [AV.bool b]), AV.bool (stateOfR l).2.2]) :=
  T7 (An3 l hl hr) fun x _ => AV0 (H7 M9 (H7 (N8 (G2 (i := 0) rfl) J7) (H7 M9 V9)))
end Go.Proofs.YtkegepoihkhihaaGreat

namespace Go.Proofs.YtkegepoihkhihaaGreat
open Go Go.AV Go.M
attribute [local irreducible] OpW OpA OpS AWP FSpec ESpec GSpec OpE RetOk RetOkG RvDen Le Ev GuardIs SrcIs Int.tmod IntKind.wrap bandI
theorem Aw9 (b : Nat) (code : List Int) (hcode : ByteL code) (c : TCur) (hp : c.p ≤ 6000000) : GSpec Tryz.prog 227 [AV.ptr b 0] [.box b 114 (curC code c)] (fun x : TCur × Str => x.1.p ≤ c.p + 2 ∧ x.2.length ≤ 64) (fun x => [.box b 114 (curC code x.1)]) (fun x => AV.str x.2) := by
 refine I9 Tryz.func227 rfl Tryz.ntmps227 rfl ?_
 refine A3 (A2 ?_)
 refine A1 rfl (B7 rfl (R9 (l := []) rfl)) ?_
 refine A4 (A3 (A2 ?_))
 refine A5 rfl ?_
 refine A1 rfl (L2 rfl E7 E5 Tryz.zeroValue9 rfl rfl rfl rfl (D3 (R9 (l := []) rfl) (O5 _) (D3 (R9 (l := [49]) rfl) (O5 _) (D3 (R9 (l := [55]) rfl) (O5 _) (D3 (R9 (l := [49, 48]) rfl) (O5 _) (D3 (R9 (l := [45, 51]) rfl) (O5 _) (D3 (R9 (l := [120]) rfl) (O5 _) (D3 (R9 (l := [97, 44, 98, 95, 99]) rfl) (O5 _) I2))))))) rfl rfl) ?_
 refine J9 [0] rfl rfl rfl rfl Tryz.call211 rfl (Ae5 _ _ hcode _ ([[], [49], [55], [49, 48], [45, 51], [120], [97, 44, 98, 95, 99]] : List Str) (by decide) (by omega)) (A7 (A0 rfl) (A7 (A0 rfl) C6)) rfl ?_
 intro x5 ok5
 refine B5 rfl ?_
 refine A4 ?_
 refine C5 ?_
 (refine M3 [0] ((_, _)) ?_ rfl (by first | (dsimp only; rfl) | rfl) (P7 rfl (B8 rfl (by rfl))); exact ok5)
theorem An4 (b : Nat) (code : List Int) (hcode : ByteL code) (c : TCur) (key : Str) (hp : c.p ≤ 5000000) : GSpec Tryz.prog 212 [AV.ptr b 0, AV.str key] [.box b 114 (curC code c)] (fun x : TCur × TWrite => x.1.p ≤ c.p + 4 ∧ x.2.Key = key ∧ x.2.Val.length ≤ 64) (fun x => [.box b 114 (curC code x.1)]) (fun x => AV.agg x.2.cs) := by
 refine I9 Tryz.func212 rfl Tryz.ntmps212 rfl ?_
 refine A3 (A2 ?_)
 refine G3 rfl rfl rfl rfl Tryz.zeroValue101 rfl ?_
 intro b4
 refine A4 (A3 (A3 (A2 ?_)))
 refine A5 rfl ?_
 refine J9 [1] rfl rfl rfl rfl Tryz.call114 rfl (r4 _ _ hcode _ _ (by omega) (by omega)) (A7 (A0 rfl) (A7 B6 C6)) rfl ?_
 intro x6 ok6
 refine A4 ?_
 refine C4 (A0 rfl) ?_ ?_
 ·intro h6
  refine A3 (A2 ?_)
  refine A5 rfl ?_
  refine A1 rfl (P0 (places := #[(0, 1), (1, 1), (2, 1)]) rfl H0 Tryz.zeroValue101 (fun w => by kernel_rfl) rfl (D3 (A0 rfl) (O5 _) (D3 F8 (W7 _) I2)) rfl) ?_
  refine D7 1 rfl rfl rfl (A0 rfl) (A0 rfl) (F0 _) rfl H6 rfl ?_
  refine A4 ?_
  refine C5 ?_
  (refine M3 [0] ((_, ⟨_, _, _⟩)) ?_ rfl (by first | (dsimp only; rfl) | rfl) (P7 rfl (M2 (ys := _) 1 rfl rfl T9 H6 rfl)); (dsimp only; first | exact ⟨by omega, rfl, by simp⟩ | exact ⟨by omega, rfl, ok11.2⟩))
 intro h6
 refine C8 (A3 (A2 ?_))
 refine A5 rfl ?_
 refine A5 rfl ?_
 refine J9 [0] rfl rfl rfl rfl Tryz.call227 rfl (Aw9 _ _ hcode _ (by omega)) (A7 (A0 rfl) C6) rfl ?_
 intro x11 ok11
 refine A1 rfl (P0 (places := #[(0, 1), (1, 1), (2, 1)]) rfl H0 Tryz.zeroValue101 (fun w => by kernel_rfl) rfl (D3 (A0 rfl) (O5 _) (D3 (A0 rfl) (O5 _) I2)) rfl) ?_
 refine D7 1 rfl rfl rfl (A0 rfl) (A0 rfl) (F0 _) rfl H6 rfl ?_
 refine A4 ?_
 refine C5 ?_
 (refine M3 [0] ((_, ⟨_, _, _⟩)) ?_ rfl (by first | (dsimp only; rfl) | rfl) (P7 rfl (M2 (ys := _) 1 rfl rfl T9 H6 rfl)); (dsimp only; first | exact ⟨by omega, rfl, by simp⟩ | exact ⟨by omega, rfl, ok11.2⟩))
def keysD : List Str := [[97], [98], [99], [105, 47, 120, 47, 49], [109], [110], [114, 47, 49], [122]]
theorem BA8 {s : Str} {i : Nat} (h : keysD[i]? = some s) : s.length ≤ 5 := by
  have : ∀ s ∈ keysD, s.length ≤ 5 := by decide
  exact this s (G2 h)
theorem Ai2 (b : Nat) (code : List Int) (hcode : ByteL code) (c : TCur) (hp : c.p ≤ 3000000) : GSpec Tryz.prog 171 [AV.ptr b 0] [.box b 114 (curC code c)] (fun x : TCur × List TWrite × Value => x.1.p ≤ c.p + 48 ∧ sizeL TWrite.size x.2.1 ≤ 560) (fun x => [.box b 114 (curC code x.1), .arr x.2.2 101 3 (x.2.1.map TWrite.cs)]) (fun x => AV.is x.2.2) := by
 refine I9 Tryz.func171 rfl Tryz.ntmps171 rfl ?_
 refine A3 (A2 ?_)
 refine A1 rfl (B7 rfl M4) ?_
 refine A4 (A3 (A2 ?_))
 refine X5 101 3 rfl rfl rfl rfl M4 ?_
 intro v3
 refine A4 (A3 (A3 (A2 ?_)))
 refine A1 rfl (L2 rfl E7 E5 Tryz.zeroValue9 rfl rfl rfl rfl (D3 (R9 (l := [97]) rfl) (O5 _) (D3 (R9 (l := [98]) rfl) (O5 _) (D3 (R9 (l := [99]) rfl) (O5 _) (D3 (R9 (l := [105, 47, 120, 47, 49]) rfl) (O5 _) (D3 (R9 (l := [109]) rfl) (O5 _) (D3 (R9 (l := [110]) rfl) (O5 _) (D3 (R9 (l := [114, 47, 49]) rfl) (O5 _) (D3 (R9 (l := [122]) rfl) (O5 _) I2)))))))) rfl rfl) ?_
 refine A1 rfl (H2 rfl E7 (A0 rfl)) ?_
 refine A1 rfl (B9 rfl B6) ?_
 refine A4 (D1 ?_)
 refine AWP.le (H4 [1, 0] rfl) ?_
 refine d9 [(0, _), (2, _), (6, _), (7, _)] _ (fun (i : Nat) (cc : TCur) (l : List TWrite) (v : Value) => i ≤ 8 ∧ cc.p ≤ c.p + 6 * i ∧ sizeL TWrite.size l ≤ 70 * i) (fun (i : Nat) (cc : TCur) (l : List TWrite) (v : Value) => [.box b 114 (curC code cc), .arr v 101 3 (l.map TWrite.cs)]) (fun (i : Nat) (cc : TCur) (l : List TWrite) (v : Value) => [(3, AV.is v), (8, AV.int i)]) (fun (i : Nat) (cc : TCur) (l : List TWrite) (v : Value) => 8 - i) (0) (c) ([]) (v3) ?_ (S6 (by rfl) ⟨rfl, rfl, rfl, rfl, rfl, rfl, trivial⟩) ?_
 ·exact ⟨by omega, by omega, by simp [sizeL]⟩
 intro i cc l v hinv
 refine A3 (A2 ?_)
 refine A1 rfl (K5 rfl (A0 rfl) (A0 rfl)) ?_
 refine A4 (A3 ?_)
 refine C4 (A0 rfl) ?_ ?_
 ·intro h9
  have k9 := of_decide_eq_true h9; try simp only [A9] at k9
  have hlt : i < 8 := by simp only [A8] at k9; omega
  obtain ⟨y, hy⟩ := get_some (show i < keysD.length from hlt)
  have hyl := BA8 hy
  have hyy : (keysD.map fun s => [AV.str s])[i]? = some [AV.str y] := by rw [List.getElem?_map, hy]; rfl
  have hll : l.length ≤ 560 := by have := O2 (f := TWrite.size) (l := l); omega
  refine C8 (A3 (D1 (A3 (A2 ?_))))
  refine A1 rfl (p8 rfl E7 E5 (A0 rfl) (A0 rfl) (by omega) (by rw [Int.toNat_natCast]; exact hyy)) ?_
  refine A1 rfl (N9 rfl (A0 rfl) F7 rfl) ?_
  refine B5 rfl ?_
  refine A4 (A3 (A2 ?_))
  refine A5 rfl ?_
  refine J9 [0] rfl rfl rfl rfl Tryz.call114 rfl (r4 _ _ hcode _ _ (by omega) (by omega)) (A7 (A0 rfl) (A7 B6 C6)) rfl ?_
  intro x13 ok13
  refine A4 ?_
  refine C4 (A0 rfl) ?_ ?_
  ·intro h13
   refine A2 ?_
   refine A5 rfl ?_
   refine A5 rfl ?_
   refine A5 rfl ?_
   refine J9 [0] rfl rfl rfl rfl Tryz.call212 rfl (An4 _ _ hcode _ _ (by omega)) (A7 (A0 rfl) (A7 (A0 rfl) C6)) rfl ?_
   intro x17 ok17
   refine A1 rfl (L2 rfl G0 H6 Tryz.zeroValue101 rfl rfl rfl rfl (D3 (A0 rfl) (F0 _) I2) rfl rfl) ?_
   refine N3 (by' := 40) 1 rfl rfl rfl rfl G0 Tryz.type101 rfl rfl rfl rfl rfl rfl (A0 rfl) (A0 rfl) rfl (by first | omega | (simp only [C9, A8, szR] at *; omega)) ?_
   intro v19_1
   refine B5 rfl ?_
   refine A4 (A2 ?_)
   refine A1 rfl (G7 rfl (A0 rfl) B6 (by first | omega | (simp only [C9, A8, szR] at *; omega))) ?_
   refine A5 rfl ?_
   refine A4 ?_
   refine T8 i cc l v (i + 1) (x17.1) (l ++ [x17.2]) (v19_1) ?_ ?_ (Le.trans (H4 [0, 0] rfl) (S6 (by first | rfl | (rw [List.map_append]; rfl)) ⟨rfl, rfl, rfl, rfl, rfl, rfl, trivial⟩))
   ·exact ⟨by omega, by omega, by (have h9 : x17.2.size ≤ 69 := by unfold TWrite.size; rw [ok17.2.1]; omega); rw [show sizeL TWrite.size (l ++ [x17.2]) = sizeL TWrite.size l + x17.2.size + 1 from by unfold sizeL; simp; omega]; omega⟩
   omega
  intro h13
  refine C8 (A2 ?_)
  refine A1 rfl (G7 rfl (A0 rfl) B6 (by first | omega | (simp only [C9, A8, szR] at *; omega))) ?_
  refine A5 rfl ?_
  refine A4 ?_
  refine T8 i cc l v (i + 1) (x13.1) (l) (v) ?_ ?_ (Le.trans (H4 [0, 0] rfl) (S6 (by first | rfl | (rw [List.map_append]; rfl)) ⟨rfl, rfl, rfl, rfl, rfl, rfl, trivial⟩))
  ·exact ⟨by omega, by omega, by omega⟩
  omega
 intro h9
 have k9 := of_decide_eq_false h9; try simp only [A9] at k9
 refine G9 ?_
 refine A3 (A2 ?_)
 refine A5 rfl ?_
 refine B5 rfl ?_
 refine A4 ?_
 refine C5 ?_
 (refine M3 [0, 0] ((cc, l, v)) ?_ rfl (by first | (dsimp only; rfl) | rfl) (P7 rfl (B8 rfl (by rfl))); exact ⟨show cc.p ≤ _ by omega, show sizeL TWrite.size l ≤ _ by omega⟩)
end Go.Proofs.YtkegepoihkhihaaGreat

set_option maxHeartbeats 2000000
namespace Go.M
open Go.AV
theorem Af5 (s : Str) : ∀ l : List Str, sizeL (fun x : Str => x.length) (putS l s) ≤ sizeL (fun x : Str => x.length) l + s.length + 1
  | [] => by unfold putS sizeL; simp; omega
  | y :: l => by
    have ih := Af5 s l
    have hc : ∀ (z : Str) (q : List Str), sizeL (fun x : Str => x.length) (z :: q) = sizeL (fun x : Str => x.length) q + z.length + 1 := fun z q => by unfold sizeL; simp; omega
    unfold putS
    split
    · rw [hc s]; omega
    · split
      · omega
      · rw [hc, hc]; omega
end Go.M
namespace Go.Proofs.YtkegepoihkhihaaGreat
open Go Go.AV Go.M
attribute [local irreducible] OpW OpA OpS AWP FSpec ESpec GSpec OpE RetOk RetOkG RvDen Le Ev GuardIs SrcIs Int.tmod Int.tdiv IntKind.wrap bandI
theorem Ax0 (b : Nat) (code : List Int) (hcode : ByteL code) (c : TCur) (hp : c.p ≤ 2000000) : GSpec Tryz.prog 116 [AV.ptr b 0] [.box b 114 (curC code c)] (fun x : TCur × TRec × Value × Value => x.1.p ≤ c.p + 100 ∧ x.2.1.size ≤ 1000 ∧ 0 ≤ x.2.1.Lead ∧ x.2.1.Lead ≤ 3 ∧ 0 ≤ x.2.1.Time ∧ x.2.1.Time ≤ 100001) (fun x => .box b 114 (curC code x.1) :: TRec.ow x.2.1 x.2.2) (fun x => AV.agg (TRec.ocs x.2.1 x.2.2)) := by
 refine I9 Tryz.func116 rfl Tryz.ntmps116 rfl ?_
 refine A3 (A2 ?_)
 refine G3 rfl rfl rfl rfl Tryz.zeroValue104 rfl ?_
 intro b2
 refine A4 (A3 (A2 ?_))
 refine A5 rfl ?_
 refine J9 [1] rfl rfl rfl rfl Tryz.call76 rfl (R4 _ _ hcode _ _ (by omega) (by omega)) (A7 (A0 rfl) (A7 B6 C6)) rfl ?_
 intro x6 ok6
 refine A1 rfl (G7 rfl B6 (A0 rfl) (by first | omega | (simp only [C9, A8, szR] at *; omega))) ?_
 refine A5 rfl ?_
 refine J9 [0] rfl rfl rfl rfl Tryz.call76 rfl (R4 _ _ hcode _ _ (by omega) (by omega)) (A7 (A0 rfl) (A7 B6 C6)) rfl ?_
 intro x9 ok9
 refine A1 rfl (G7 rfl B6 (A0 rfl) (by first | omega | (simp only [C9, A8, szR] at *; omega))) ?_
 refine A5 rfl ?_
 refine J9 [0] rfl rfl rfl rfl Tryz.call76 rfl (R4 _ _ hcode _ _ (by omega) (by omega)) (A7 (A0 rfl) (A7 B6 C6)) rfl ?_
 intro x12 ok12
 refine A1 rfl (G7 rfl B6 (A0 rfl) (by first | omega | (simp only [C9, A8, szR] at *; omega))) ?_
 refine A1 rfl (P0 (places := #[(0, 1), (1, 1), (2, 1), (3, 1), (4, 1), (5, 1), (6, 1)]) rfl B3 Tryz.zeroValue104 (fun w => by kernel_rfl) rfl (D3 (A0 rfl) (K4 _ _) (D3 (A0 rfl) (K4 _ _) (D3 (A0 rfl) (K4 _ _) I2))) rfl) ?_
 refine G3 rfl rfl rfl rfl Tryz.zeroValue104 rfl ?_
 intro b3
 refine D7 0 rfl rfl rfl (A0 rfl) (A0 rfl) (F0 _) rfl G1 rfl ?_
 refine A4 (A3 (A3 (A2 ?_)))
 refine A1 rfl (B1 0 rfl B3 rfl B4 (A0 rfl) rfl) ?_
 refine A1 rfl (B0 0 rfl (A0 rfl) rfl C2 rfl) ?_
 refine A4 (D1 (A3 (A2 ?_)))
 refine A1 rfl (O7 rfl (A0 rfl) B6) ?_
 refine B5 rfl ?_
 refine A4 ?_
 refine C4 (A0 rfl) ?_ ?_
 ·intro h24
  have k24 := O1 h24; try simp only [A9] at k24
  refine A3 (A2 ?_)
  refine A5 rfl ?_
  refine J9 [1] rfl rfl rfl rfl Tryz.call76 rfl (R4 _ _ hcode _ _ (by omega) (by omega)) (A7 (A0 rfl) (A7 B6 C6)) rfl ?_
  intro x27 ok27
  refine A1 rfl (B1 3 rfl B3 rfl B4 (A0 rfl) rfl) ?_
  refine K3 1 rfl rfl rfl (A0 rfl) (A0 rfl) (K4 _ _) rfl B4 rfl ?_
  refine A4 (A3 (A3 (A2 ?_)))
  refine A5 rfl ?_
  refine J9 [0] rfl rfl rfl rfl Tryz.call76 rfl (R4 _ _ hcode _ _ (by omega) (by omega)) (A7 (A0 rfl) (A7 B6 C6)) rfl ?_
  intro x30 ok30
  refine B5 rfl ?_
  refine A4 (D1 ?_)
  refine c7 9 1 ?_
  refine AWP.le (H4 [2, 1, 0] rfl) ?_
  refine d9 [(0, _), (2, _), (3, _)] _ (fun (n : Int) (cc : TCur) (l : List Str) (v : Value) => (0 ≤ n ∧ n + l.length ≤ 3) ∧ cc.p + 4 * n ≤ c.p + 22 ∧ SrtS l ∧ sizeL (fun x : Str => x.length) l + 70 * n ≤ 210) (fun (n : Int) (cc : TCur) (l : List Str) (v : Value) => [.box b3 104 [AV.int (1 + x6.2), AV.int (1 + x9.2), AV.int (1 + x12.2), AV.int x27.2, AV.is v, AV.nils, AV.bool false], .box b 114 (curC code cc), .arr v 9 1 (l.map fun t => [AV.str t])]) (fun (n : Int) (cc : TCur) (l : List Str) (v : Value) => [(4, AV.int n)]) (fun (n : Int) (cc : TCur) (l : List Str) (v : Value) => n.toNat) (x30.2) (x30.1) ([]) ((Value.slice none 0 0)) ?_ (S6 (by rfl) ⟨rfl, rfl, rfl, rfl, trivial⟩) ?_
  ·exact ⟨⟨by omega, by simp; omega⟩, by omega, List.Pairwise.nil, by simp [sizeL]; omega⟩
  intro n cc l v hinv
  refine A3 (A3 (A2 ?_))
  refine A5 rfl ?_
  refine A1 rfl (O8 rfl (A0 rfl) B6) ?_
  refine A4 ?_
  refine C4 (A0 rfl) ?_ ?_
  ·intro h32
   have k32 := of_decide_eq_true h32; try simp only [A9] at k32
   refine C8 (A3 (D1 ?_))
   refine S3 _ [(0, false), (1, false), (2, false), (3, true), (4, true)] (by kernel_rfl) (by kernel_rfl) rfl (V3 1) ?_
   refine F1 rfl rfl rfl (fun ext => B1 4 rfl B3 rfl N0 (A0 rfl) rfl) ?_
   refine F1 rfl rfl rfl (fun ext => B0 0 rfl (A0 rfl) rfl P1 rfl) ?_
   refine F1 rfl rfl rfl (fun ext => B9 rfl (A0 rfl)) ?_
   refine T5 rfl rfl rfl (l8 [1] rfl Tryz.call170 rfl (Av8 _ _ hcode _ (by omega)) (A7 (A0 rfl) C6) rfl) (fun a _ => (by first | exact F3 rfl | exact F3 (List.append_assoc _ _ _) | exact I3)) ?_
   intro x38 ok38
   refine T5 rfl rfl rfl (l8 [1] rfl Tryz.call169 rfl (AI7 v l x38.2 hinv.2.2.1 (by omega)) (A7 (A0 rfl) (A7 (A0 rfl) C6)) rfl) (fun a _ => (by first | exact F3 rfl | exact F3 (List.append_assoc _ _ _) | exact I3)) ?_
   intro x39 ok39
   refine g6 ?_
   refine A1 rfl (B1 4 rfl B3 rfl N0 (A0 rfl) rfl) ?_
   refine V2 3 rfl fun one_x39 => ?_
   refine K3 0 rfl rfl rfl (A0 rfl) (A0 rfl) (U9 one_x39) rfl N0 rfl ?_
   refine A4 (A2 ?_)
   refine A5 rfl ?_
   refine A1 rfl (P9 rfl (A0 rfl) B6 (by first | omega | (simp only [C9, A8, szR] at *; omega))) ?_
   refine B5 rfl ?_
   refine A4 ?_
   refine T8 n cc l v (n - 1) (x38.1) (putS l x38.2) (x39) ?_ ?_ (Le.trans (H4 [0, 1, 1] rfl) (S6 (by rfl) ⟨rfl, rfl, rfl, rfl, trivial⟩))
   ·(have h9 := AS6 x38.2 l; have h8 := Af5 x38.2 l; exact ⟨⟨by omega, by omega⟩, by omega, (AS5 hinv.2.2.1).1, by omega⟩)
   omega
  intro h32
  have k32 := of_decide_eq_false h32; try simp only [A9] at k32
  refine G9 ?_
  refine A3 (A2 ?_)
  refine A5 rfl ?_
  refine J9 [1] rfl rfl rfl rfl Tryz.call171 rfl (Ai2 _ _ hcode _ (by omega)) (A7 (A0 rfl) C6) rfl ?_
  intro x42 ok42
  refine A1 rfl (B1 5 rfl B3 rfl K2 (A0 rfl) rfl) ?_
  refine V2 1 rfl fun one_x42_2_2 => ?_
  refine K3 2 rfl rfl rfl (A0 rfl) (A0 rfl) (U9 one_x42_2_2) rfl K2 rfl ?_
  refine A4 (A3 (A2 ?_))
  refine A1 rfl (B1 4 rfl B3 rfl N0 (A0 rfl) rfl) ?_
  refine A1 rfl (B0 2 rfl (A0 rfl) rfl P1 rfl) ?_
  refine A1 rfl (V8 3 rfl E7 (A0 rfl) rfl) ?_
  refine A1 rfl (B1 5 rfl B3 rfl K2 (A0 rfl) rfl) ?_
  refine A1 rfl (B0 2 rfl (A0 rfl) rfl M1 rfl) ?_
  refine A1 rfl (V8 1 rfl G0 (A0 rfl) rfl) ?_
  refine A1 rfl (G7 rfl (A0 rfl) (A0 rfl) (by simp only [A9]; have h9 := O2 (f := TWrite.size) (l := x42.2.1); omega)) ?_
  refine A1 rfl (O7 rfl (A0 rfl) B6) ?_
  refine A4 ?_
  refine C4 (A0 rfl) ?_ ?_
  ·intro h51
   have k51 := O1 h51; try simp only [A9] at k51
   refine A2 ?_
   refine AV2 rfl rfl rfl rfl E7 E5 Tryz.zeroValue9 rfl rfl rfl rfl (D3 (R9 (l := [97]) rfl) (O5 _) I2) rfl rfl ?_
   intro v52
   refine A1 rfl (B1 4 rfl B3 rfl N0 (A0 rfl) rfl) ?_
   refine V2 0 rfl fun one_v52 => ?_
   refine K3 3 rfl rfl rfl (A0 rfl) (A0 rfl) (U9 one_v52) rfl N0 rfl ?_
   refine A4 (A3 (A2 ?_))
   refine A1 rfl (G5 3 rfl (A0 rfl) rfl N1 G1 rfl) ?_
   refine D7 5 rfl rfl rfl (A0 rfl) (A0 rfl) (F0 _) rfl G1 rfl ?_
   refine A4 ?_
   refine C5 ?_
   (refine M3 [1, 0, 0] ((x42.1, ⟨1 + x6.2, 1 + x9.2, 1 + x12.2, x27.2, [[97]], x42.2.1, false⟩, v52, x42.2.2)) ?_ rfl (by first | (dsimp only; rfl) | rfl) (P7 rfl (M2 (ys := _) 5 rfl rfl N1 G1 rfl)); (dsimp only [TRec.size]; exact ⟨by omega, by first | (simp [sizeL]; done) | (simp only [sizeL, I5, L6, List.map_cons, List.map_nil, List.sum_cons, List.sum_nil] at *; omega) | omega, by omega, by omega, by omega, by omega⟩))
  intro h51
  have k51 := O0 h51; try simp only [A9] at k51
  refine C8 (A3 (A2 ?_))
  refine A1 rfl (G5 2 rfl (A0 rfl) rfl N1 G1 rfl) ?_
  refine D7 4 rfl rfl rfl (A0 rfl) (A0 rfl) (F0 _) rfl G1 rfl ?_
  refine A4 ?_
  refine C5 ?_
  (refine M3 [0, 2, 0] ((x42.1, ⟨1 + x6.2, 1 + x9.2, 1 + x12.2, x27.2, l, x42.2.1, false⟩, v, x42.2.2)) ?_ rfl (by first | (dsimp only; rfl) | rfl) (P7 rfl (M2 (ys := _) 4 rfl rfl N1 G1 rfl)); (dsimp only [TRec.size]; exact ⟨by omega, by first | (simp [sizeL]; done) | (simp only [sizeL, I5, L6, List.map_cons, List.map_nil, List.sum_cons, List.sum_nil] at *; omega) | omega, by omega, by omega, by omega, by omega⟩))
 intro h24
 have k24 := O0 h24; try simp only [A9] at k24
 refine A3 (A2 ?_)
 refine A1 rfl (O7 rfl (A0 rfl) B6) ?_
 refine B5 rfl ?_
 refine A4 ?_
 refine C4 (A0 rfl) ?_ ?_
 ·intro h54
  have k54 := O1 h54; try simp only [A9] at k54
  refine A2 ?_
  refine A1 rfl (B1 1 rfl B3 rfl B4 (A0 rfl) rfl) ?_
  refine K3 0 rfl rfl rfl (A0 rfl) B6 (K4 _ _) rfl B4 rfl ?_
  refine A4 (A3 (A2 ?_))
  refine A1 rfl (G5 0 rfl (A0 rfl) rfl N1 G1 rfl) ?_
  refine D7 2 rfl rfl rfl (A0 rfl) (A0 rfl) (F0 _) rfl G1 rfl ?_
  refine A4 ?_
  refine C5 ?_
  refine Y2 9 1 ?_
  refine Y2 101 3 ?_
  (refine M3 [3, 1, 0] ((x12.1, ⟨1 + x6.2, 0, 1 + x12.2, 0, [], [], false⟩, Value.slice none 0 0, Value.slice none 0 0)) ?_ rfl (by first | (dsimp only; rfl) | rfl) (P7 rfl (M2 (ys := _) 4 rfl rfl N1 G1 rfl)); (dsimp only [TRec.size]; exact ⟨by omega, by first | (simp [sizeL]; done) | (simp only [sizeL, I5, L6, List.map_cons, List.map_nil, List.sum_cons, List.sum_nil] at *; omega) | omega, by omega, by omega, by omega, by omega⟩))
 intro h54
 have k54 := O0 h54; try simp only [A9] at k54
 refine A3 (A2 ?_)
 refine A5 rfl ?_
 refine J9 [1] rfl rfl rfl rfl Tryz.call114 rfl (r4 _ _ hcode _ _ (by omega) (by omega)) (A7 (A0 rfl) (A7 B6 C6)) rfl ?_
 intro x18 ok18
 refine A1 rfl (B1 6 rfl B3 rfl J1 (A0 rfl) rfl) ?_
 refine K3 1 rfl rfl rfl (A0 rfl) (A0 rfl) (W7 _) rfl J1 rfl ?_
 refine A4 (A3 (A2 ?_))
 refine A1 rfl (B1 6 rfl B3 rfl J1 (A0 rfl) rfl) ?_
 refine A1 rfl (B0 1 rfl (A0 rfl) rfl K9 rfl) ?_
 refine A1 rfl (M5 rfl (A0 rfl)) ?_
 refine A4 ?_
 refine C4 (A0 rfl) ?_ ?_
 ·intro h22
  refine A2 ?_
  refine A1 rfl (B1 2 rfl B3 rfl B4 (A0 rfl) rfl) ?_
  refine K3 1 rfl rfl rfl (A0 rfl) B6 (K4 _ _) rfl B4 rfl ?_
  refine A4 (A3 (A2 ?_))
  refine A1 rfl (G5 1 rfl (A0 rfl) rfl N1 G1 rfl) ?_
  refine D7 2 rfl rfl rfl (A0 rfl) (A0 rfl) (F0 _) rfl G1 rfl ?_
  refine A4 ?_
  refine C5 ?_
  refine Y2 9 1 ?_
  refine Y2 101 3 ?_
  (refine M3 [2, 1, 0] ((x18.1, ⟨1 + x6.2, 1 + x9.2, 0, 0, [], [], x18.2⟩, Value.slice none 0 0, Value.slice none 0 0)) ?_ rfl (by first | (dsimp only; rfl) | rfl) (P7 rfl (M2 (ys := _) 4 rfl rfl N1 G1 rfl)); (dsimp only [TRec.size]; exact ⟨by omega, by first | (simp [sizeL]; done) | (simp only [sizeL, I5, L6, List.map_cons, List.map_nil, List.sum_cons, List.sum_nil] at *; omega) | omega, by omega, by omega, by omega, by omega⟩))
 intro h22
 refine C8 (A3 (A2 ?_))
 refine A1 rfl (G5 1 rfl (A0 rfl) rfl N1 G1 rfl) ?_
 refine D7 2 rfl rfl rfl (A0 rfl) (A0 rfl) (F0 _) rfl G1 rfl ?_
 refine A4 ?_
 refine C5 ?_
 refine Y2 9 1 ?_
 refine Y2 101 3 ?_
 (refine M3 [2, 1, 0] ((x18.1, ⟨1 + x6.2, 1 + x9.2, 1 + x12.2, 0, [], [], x18.2⟩, Value.slice none 0 0, Value.slice none 0 0)) ?_ rfl (by first | (dsimp only; rfl) | rfl) (P7 rfl (M2 (ys := _) 4 rfl rfl N1 G1 rfl)); (dsimp only [TRec.size]; exact ⟨by omega, by first | (simp [sizeL]; done) | (simp only [sizeL, I5, L6, List.map_cons, List.map_nil, List.sum_cons, List.sum_nil] at *; omega) | omega, by omega, by omega, by omega, by omega⟩))
end Go.Proofs.YtkegepoihkhihaaGreat

namespace Go.Proofs.YtkegepoihkhihaaGreat
open Go Go.AV Go.M
attribute [local irreducible] OpW OpA OpS AWP FSpec ESpec GSpec OpE RetOk RetOkG RvDen Le Ev GuardIs SrcIs SrcE Int.tmod Int.tdiv IntKind.wrap bandI
theorem Ai3 (s : TState) (y : Value × Value) (hs : s.size ≤ 1048576) : GSpec Tryz.prog 199 [AV.agg (TState.ocs s y)] (TState.ow s y) (fun _ : Value × Value => True) (fun x => TState.ow s y ++ TState.ow s x) (fun x => AV.agg (TState.ocs s x)) := by
 obtain ⟨hs1, hs2, hs3, hs4, hs5⟩ := W1 hs
 refine I9 Tryz.func199 rfl Tryz.ntmps199 rfl ?_
 refine A3 (A2 ?_)
 refine O3 rfl rfl rfl rfl (A0 rfl) ?_
 intro b1
 refine G3 rfl rfl rfl rfl Tryz.zeroValue43 rfl ?_
 intro b2
 refine A4 (A3 ?_)
 refine Y3 _ 11 (.pure 0 (.pure 1 (.pure 2 (.pure 3 (.pure 4 (.pure 6 (.pure 7 (.e2 5 (.e2 8 (.pure 9 (.e1 10 .nil)) 10 (.e1 8 (.pure 9 .nil))) 10 (.e1 5 (.e1 8 (.pure 9 .nil))))))))))) (by kernel_rfl) (by kernel_rfl) rfl o8 ?_
 refine G6 rfl rfl rfl (fun ext => B1 0 rfl C0 rfl B4 (A0 rfl) rfl) ?_
 refine G6 rfl rfl rfl (fun ext => B0 1 rfl (A0 rfl) rfl C2 rfl) ?_
 refine G6 rfl rfl rfl (fun ext => B1 1 rfl C0 rfl N2 (A0 rfl) rfl) ?_
 refine G6 rfl rfl rfl (fun ext => B0 1 rfl (A0 rfl) rfl O9 rfl) ?_
 refine G6 rfl rfl rfl (fun ext => E8 rfl Tryz.call224 rfl (AQ8 s.Cells (by omega)) (A7 (A0 rfl) C6)) ?_
 refine G6 rfl rfl rfl (fun ext => B1 3 rfl C0 rfl N4 (A0 rfl) rfl) ?_
 refine G6 rfl rfl rfl (fun ext => B0 1 rfl (A0 rfl) rfl T4 rfl) ?_
 refine AO4 ?_ ?_
 ·refine U4 rfl rfl rfl (Y7 rfl I0 K7) (fun a _ => (by first | exact F3 rfl | exact F3 (List.append_assoc _ _ _) | exact I3)) ?_
  intro v11 _
  refine AO4 ?_ ?_
  ·refine U4 rfl rfl rfl (j7 4 (fun _ => rfl) (n2 (by' := 24) 4 rfl I0 Tryz.type144 rfl rfl rfl rfl rfl rfl (A0 rfl) (AT4 3 rfl (A0 rfl)) rfl (by simp only [L6, A9]; omega))) (fun a _ => (by first | exact F3 rfl | exact F3 (List.append_assoc _ _ _) | exact I3)) ?_
   intro v14_1 hone_v14_1
   have one_v14_1 := hone_v14_1.2
   refine G6 rfl rfl rfl (fun ext => P0 (places := #[(0, 1), (1, 1), (2, 1), (3, 1)]) rfl C0 Tryz.zeroValue43 (fun w => by kernel_rfl) rfl (D3 (A0 rfl) (K4 _ _) (D3 (A0 rfl) (U8 _ _) (D3 (A0 rfl) (U9 one_v14_1) I2))) rfl) ?_
   refine X1 ?_
   refine U4 rfl rfl rfl (p4 rfl Tryz.zeroValue43 rfl) (fun a _ => (by first | exact F3 rfl | exact F3 (List.append_assoc _ _ _) | exact I3)) ?_
   intro b3 _
   refine d7 ?_
   refine D7 5 rfl rfl rfl (A0 rfl) (A0 rfl) (F0 _) rfl C3 rfl ?_
   refine A4 (A3 (A3 (A2 ?_)))
   refine A1 rfl (B1 2 rfl C0 rfl G4 (A0 rfl) rfl) ?_
   refine A1 rfl (B0 1 rfl (A0 rfl) rfl L8 rfl) ?_
   refine A1 rfl (V8 2 rfl E0 (A0 rfl) rfl) ?_
   refine A1 rfl (B9 rfl B6) ?_
   refine A4 (D1 ?_)
   refine c7 141 5 ?_
   refine AWP.le (H4 [6, 0] rfl) ?_
   refine Q9 [(2, _), (3, _), (17, _), (18, _)] _ (fun (i : Nat) (v : Value) => i ≤ s.Held.length) (fun (i : Nat) (v : Value) => [.box b3 43 [AV.int s.Floor, AV.list 2 (s.Cells.map TCell.cs), AV.is v, AV.is v14_1], .arr v 141 5 ((s.Held.take i).map THeld.cs)]) (fun (i : Nat) (v : Value) => [(19, AV.int i)]) (fun (i : Nat) (v : Value) => s.Held.length - i) (0) ((Value.slice none 0 0)) ?_ (S6 (by rfl) ⟨rfl, rfl, rfl, rfl, rfl, trivial⟩) ?_
   ·exact Nat.zero_le _
   intro i v hinv
   refine A3 (A2 ?_)
   refine A1 rfl (K5 rfl (A0 rfl) (A0 rfl)) ?_
   refine A4 (A3 ?_)
   refine C4 (A0 rfl) ?_ ?_
   ·intro h20
    have k20 := of_decide_eq_true h20; try simp only [A9] at k20
    have hlt : i < s.Held.length := by omega
    obtain ⟨h, hx⟩ := get_some hlt
    obtain ⟨g1, g2, g3, g4, g5⟩ := X8 hs2 hx
    have hrow : (s.Held.map THeld.cs)[((i : Nat) : Int).toNat]? = some h.cs := by (rw [Int.toNat_natCast, List.getElem?_map, hx]; rfl)
    refine C8 (A3 (D1 (A3 (A2 ?_))))
    refine A1 rfl (U2 4 rfl E0 D4 (A0 rfl) rfl (A0 rfl) (by omega) (by first | omega | (simp only [A9]; omega))) ?_
    refine A1 rfl (f9 4 rfl (A0 rfl) rfl J3 D4 hrow (by decide)) ?_
    refine G3 rfl rfl rfl rfl Tryz.zeroValue141 rfl ?_
    intro b5
    refine D7 0 rfl rfl rfl (A0 rfl) (A0 rfl) (F0 _) rfl D4 rfl ?_
    refine A4 ?_
    refine V5 5 (by kernel_rfl) (by kernel_rfl) rfl ?_
    refine B2 rfl rfl (B1 2 rfl C0 rfl G4 (A0 rfl) rfl) ?_
    refine B2 rfl rfl (B0 1 rfl (A0 rfl) rfl L8 rfl) ?_
    refine B2 rfl rfl (G5 0 rfl (A0 rfl) rfl J3 D4 rfl) ?_
    refine B2 rfl rfl (E8 rfl Tryz.call225 rfl (g8 _ (by first | assumption | omega)) (A7 (A0 rfl) C6)) ?_
    refine B2 rfl rfl (L2 rfl E0 D4 Tryz.zeroValue141 rfl rfl rfl rfl (D3 (A0 rfl) (F0 _) I2) rfl rfl) ?_
    refine P2 ?_
    refine N3 (by' := 72) 2 rfl rfl rfl rfl E0 Tryz.type141 rfl rfl rfl rfl rfl rfl (A0 rfl) (A0 rfl) rfl (by simp only [A9, E4, A8]; omega) ?_
    intro v28_2
    refine A1 rfl (B1 2 rfl C0 rfl G4 (A0 rfl) rfl) ?_
    refine V2 2 rfl fun one_v28_2 => ?_
    refine K3 1 rfl rfl rfl (A0 rfl) (A0 rfl) (U9 one_v28_2) rfl G4 rfl ?_
    refine A4 (A2 ?_)
    refine A1 rfl (G7 rfl (A0 rfl) B6 (by first | omega | (simp only [C9, A8, szR] at *; omega))) ?_
    refine A5 rfl ?_
    refine A4 ?_
    refine P6 i v (i + 1) (v28_2) ?_ ?_ (Le.trans (H4 [0, 0, 0] rfl) (L5 1 (by exact congrArg (fun z => Own.box b3 43 [AV.int s.Floor, AV.list 2 (s.Cells.map TCell.cs), AV.is v28_2, AV.is v14_1] :: Own.arr v28_2 141 5 z :: _) (Y8 (f := THeld.cs) hx)) ⟨rfl, rfl, rfl, rfl, rfl, trivial⟩))
    ·omega
    omega
   intro h20
   have k20 := of_decide_eq_false h20; try simp only [A9] at k20
   have hge : i = s.Held.length := by omega
   rw [hge, List.take_length]
   refine G9 ?_
   refine A3 (A2 ?_)
   refine A1 rfl (G5 0 rfl (A0 rfl) rfl E6 C3 rfl) ?_
   refine D7 2 rfl rfl rfl (A0 rfl) (A0 rfl) (F0 _) rfl C3 rfl ?_
   refine A4 ?_
   refine C5 ?_
   exact M3 [4, 4, 1, 3] (v, v14_1) (trivial) rfl (by rfl) (P7 rfl (M2 (ys := _) 2 rfl rfl E6 C3 rfl))
  refine U4 rfl rfl rfl (p4 rfl Tryz.zeroValue43 rfl) (fun a _ => (by first | exact F3 rfl | exact F3 (List.append_assoc _ _ _) | exact I3)) ?_
  intro b3 _
  refine X1 ?_
  refine U4 rfl rfl rfl (j7 4 (fun _ => rfl) (n2 (by' := 24) 4 rfl I0 Tryz.type144 rfl rfl rfl rfl rfl rfl (A0 rfl) (AT4 3 rfl (A0 rfl)) rfl (by simp only [L6, A9]; omega))) (fun a _ => (by first | exact F3 rfl | exact F3 (List.append_assoc _ _ _) | exact I3)) ?_
  intro v14_3 hone_v14_3
  have one_v14_3 := hone_v14_3.2
  refine G6 rfl rfl rfl (fun ext => P0 (places := #[(0, 1), (1, 1), (2, 1), (3, 1)]) rfl C0 Tryz.zeroValue43 (fun w => by kernel_rfl) rfl (D3 (A0 rfl) (K4 _ _) (D3 (A0 rfl) (U8 _ _) (D3 (A0 rfl) (U9 one_v14_3) I2))) rfl) ?_
  refine d7 ?_
  refine D7 5 rfl rfl rfl (A0 rfl) (A0 rfl) (F0 _) rfl C3 rfl ?_
  refine A4 (A3 (A3 (A2 ?_)))
  refine A1 rfl (B1 2 rfl C0 rfl G4 (A0 rfl) rfl) ?_
  refine A1 rfl (B0 1 rfl (A0 rfl) rfl L8 rfl) ?_
  refine A1 rfl (V8 2 rfl E0 (A0 rfl) rfl) ?_
  refine A1 rfl (B9 rfl B6) ?_
  refine A4 (D1 ?_)
  refine c7 141 5 ?_
  refine AWP.le (H4 [6, 0] rfl) ?_
  refine Q9 [(2, _), (3, _), (17, _), (18, _)] _ (fun (i : Nat) (v : Value) => i ≤ s.Held.length) (fun (i : Nat) (v : Value) => [.box b3 43 [AV.int s.Floor, AV.list 2 (s.Cells.map TCell.cs), AV.is v, AV.is v14_3], .arr v 141 5 ((s.Held.take i).map THeld.cs)]) (fun (i : Nat) (v : Value) => [(19, AV.int i)]) (fun (i : Nat) (v : Value) => s.Held.length - i) (0) ((Value.slice none 0 0)) ?_ (S6 (by rfl) ⟨rfl, rfl, rfl, rfl, rfl, trivial⟩) ?_
  ·exact Nat.zero_le _
  intro i v hinv
  refine A3 (A2 ?_)
  refine A1 rfl (K5 rfl (A0 rfl) (A0 rfl)) ?_
  refine A4 (A3 ?_)
  refine C4 (A0 rfl) ?_ ?_
  ·intro h20
   have k20 := of_decide_eq_true h20; try simp only [A9] at k20
   have hlt : i < s.Held.length := by omega
   obtain ⟨h, hx⟩ := get_some hlt
   obtain ⟨g1, g2, g3, g4, g5⟩ := X8 hs2 hx
   have hrow : (s.Held.map THeld.cs)[((i : Nat) : Int).toNat]? = some h.cs := by (rw [Int.toNat_natCast, List.getElem?_map, hx]; rfl)
   refine C8 (A3 (D1 (A3 (A2 ?_))))
   refine A1 rfl (U2 4 rfl E0 D4 (A0 rfl) rfl (A0 rfl) (by omega) (by first | omega | (simp only [A9]; omega))) ?_
   refine A1 rfl (f9 4 rfl (A0 rfl) rfl J3 D4 hrow (by decide)) ?_
   refine G3 rfl rfl rfl rfl Tryz.zeroValue141 rfl ?_
   intro b5
   refine D7 0 rfl rfl rfl (A0 rfl) (A0 rfl) (F0 _) rfl D4 rfl ?_
   refine A4 ?_
   refine V5 5 (by kernel_rfl) (by kernel_rfl) rfl ?_
   refine B2 rfl rfl (B1 2 rfl C0 rfl G4 (A0 rfl) rfl) ?_
   refine B2 rfl rfl (B0 1 rfl (A0 rfl) rfl L8 rfl) ?_
   refine B2 rfl rfl (G5 0 rfl (A0 rfl) rfl J3 D4 rfl) ?_
   refine B2 rfl rfl (E8 rfl Tryz.call225 rfl (g8 _ (by first | assumption | omega)) (A7 (A0 rfl) C6)) ?_
   refine B2 rfl rfl (L2 rfl E0 D4 Tryz.zeroValue141 rfl rfl rfl rfl (D3 (A0 rfl) (F0 _) I2) rfl rfl) ?_
   refine P2 ?_
   refine N3 (by' := 72) 2 rfl rfl rfl rfl E0 Tryz.type141 rfl rfl rfl rfl rfl rfl (A0 rfl) (A0 rfl) rfl (by simp only [A9, E4, A8]; omega) ?_
   intro v28_4
   refine A1 rfl (B1 2 rfl C0 rfl G4 (A0 rfl) rfl) ?_
   refine V2 2 rfl fun one_v28_4 => ?_
   refine K3 1 rfl rfl rfl (A0 rfl) (A0 rfl) (U9 one_v28_4) rfl G4 rfl ?_
   refine A4 (A2 ?_)
   refine A1 rfl (G7 rfl (A0 rfl) B6 (by first | omega | (simp only [C9, A8, szR] at *; omega))) ?_
   refine A5 rfl ?_
   refine A4 ?_
   refine P6 i v (i + 1) (v28_4) ?_ ?_ (Le.trans (H4 [0, 0, 0] rfl) (L5 1 (by exact congrArg (fun z => Own.box b3 43 [AV.int s.Floor, AV.list 2 (s.Cells.map TCell.cs), AV.is v28_4, AV.is v14_3] :: Own.arr v28_4 141 5 z :: _) (Y8 (f := THeld.cs) hx)) ⟨rfl, rfl, rfl, rfl, rfl, trivial⟩))
   ·omega
   omega
  intro h20
  have k20 := of_decide_eq_false h20; try simp only [A9] at k20
  have hge : i = s.Held.length := by omega
  rw [hge, List.take_length]
  refine G9 ?_
  refine A3 (A2 ?_)
  refine A1 rfl (G5 0 rfl (A0 rfl) rfl E6 C3 rfl) ?_
  refine D7 2 rfl rfl rfl (A0 rfl) (A0 rfl) (F0 _) rfl C3 rfl ?_
  refine A4 ?_
  refine C5 ?_
  exact M3 [4, 4, 1, 3] (v, v14_3) (trivial) rfl (by rfl) (P7 rfl (M2 (ys := _) 2 rfl rfl E6 C3 rfl))
 refine U4 rfl rfl rfl (p4 rfl Tryz.zeroValue43 rfl) (fun a _ => (by first | exact F3 rfl | exact F3 (List.append_assoc _ _ _) | exact I3)) ?_
 intro b3 _
 refine X1 ?_
 refine U4 rfl rfl rfl (Y7 rfl I0 K7) (fun a _ => (by first | exact F3 rfl | exact F3 (List.append_assoc _ _ _) | exact I3)) ?_
 intro v11 _
 refine X1 ?_
 refine U4 rfl rfl rfl (j7 5 (fun _ => rfl) (n2 (by' := 24) 5 rfl I0 Tryz.type144 rfl rfl rfl rfl rfl rfl (A0 rfl) (AT4 3 rfl (A0 rfl)) rfl (by simp only [L6, A9]; omega))) (fun a _ => (by first | exact F3 rfl | exact F3 (List.append_assoc _ _ _) | exact I3)) ?_
 intro v14_5 hone_v14_5
 have one_v14_5 := hone_v14_5.2
 refine G6 rfl rfl rfl (fun ext => P0 (places := #[(0, 1), (1, 1), (2, 1), (3, 1)]) rfl C0 Tryz.zeroValue43 (fun w => by kernel_rfl) rfl (D3 (A0 rfl) (K4 _ _) (D3 (A0 rfl) (U8 _ _) (D3 (A0 rfl) (U9 one_v14_5) I2))) rfl) ?_
 refine d7 ?_
 refine D7 4 rfl rfl rfl (A0 rfl) (A0 rfl) (F0 _) rfl C3 rfl ?_
 refine A4 (A3 (A3 (A2 ?_)))
 refine A1 rfl (B1 2 rfl C0 rfl G4 (A0 rfl) rfl) ?_
 refine A1 rfl (B0 1 rfl (A0 rfl) rfl L8 rfl) ?_
 refine A1 rfl (V8 2 rfl E0 (A0 rfl) rfl) ?_
 refine A1 rfl (B9 rfl B6) ?_
 refine A4 (D1 ?_)
 refine c7 141 5 ?_
 refine AWP.le (H4 [5, 0] rfl) ?_
 refine Q9 [(2, _), (3, _), (17, _), (18, _)] _ (fun (i : Nat) (v : Value) => i ≤ s.Held.length) (fun (i : Nat) (v : Value) => [.box b3 43 [AV.int s.Floor, AV.list 2 (s.Cells.map TCell.cs), AV.is v, AV.is v14_5], .arr v 141 5 ((s.Held.take i).map THeld.cs)]) (fun (i : Nat) (v : Value) => [(19, AV.int i)]) (fun (i : Nat) (v : Value) => s.Held.length - i) (0) ((Value.slice none 0 0)) ?_ (S6 (by rfl) ⟨rfl, rfl, rfl, rfl, rfl, trivial⟩) ?_
 ·exact Nat.zero_le _
 intro i v hinv
 refine A3 (A2 ?_)
 refine A1 rfl (K5 rfl (A0 rfl) (A0 rfl)) ?_
 refine A4 (A3 ?_)
 refine C4 (A0 rfl) ?_ ?_
 ·intro h20
  have k20 := of_decide_eq_true h20; try simp only [A9] at k20
  have hlt : i < s.Held.length := by omega
  obtain ⟨h, hx⟩ := get_some hlt
  obtain ⟨g1, g2, g3, g4, g5⟩ := X8 hs2 hx
  have hrow : (s.Held.map THeld.cs)[((i : Nat) : Int).toNat]? = some h.cs := by (rw [Int.toNat_natCast, List.getElem?_map, hx]; rfl)
  refine C8 (A3 (D1 (A3 (A2 ?_))))
  refine A1 rfl (U2 4 rfl E0 D4 (A0 rfl) rfl (A0 rfl) (by omega) (by first | omega | (simp only [A9]; omega))) ?_
  refine A1 rfl (f9 4 rfl (A0 rfl) rfl J3 D4 hrow (by decide)) ?_
  refine G3 rfl rfl rfl rfl Tryz.zeroValue141 rfl ?_
  intro b5
  refine D7 0 rfl rfl rfl (A0 rfl) (A0 rfl) (F0 _) rfl D4 rfl ?_
  refine A4 ?_
  refine V5 5 (by kernel_rfl) (by kernel_rfl) rfl ?_
  refine B2 rfl rfl (B1 2 rfl C0 rfl G4 (A0 rfl) rfl) ?_
  refine B2 rfl rfl (B0 1 rfl (A0 rfl) rfl L8 rfl) ?_
  refine B2 rfl rfl (G5 0 rfl (A0 rfl) rfl J3 D4 rfl) ?_
  refine B2 rfl rfl (E8 rfl Tryz.call225 rfl (g8 _ (by first | assumption | omega)) (A7 (A0 rfl) C6)) ?_
  refine B2 rfl rfl (L2 rfl E0 D4 Tryz.zeroValue141 rfl rfl rfl rfl (D3 (A0 rfl) (F0 _) I2) rfl rfl) ?_
  refine P2 ?_
  refine N3 (by' := 72) 2 rfl rfl rfl rfl E0 Tryz.type141 rfl rfl rfl rfl rfl rfl (A0 rfl) (A0 rfl) rfl (by simp only [A9, E4, A8]; omega) ?_
  intro v28_6
  refine A1 rfl (B1 2 rfl C0 rfl G4 (A0 rfl) rfl) ?_
  refine V2 2 rfl fun one_v28_6 => ?_
  refine K3 1 rfl rfl rfl (A0 rfl) (A0 rfl) (U9 one_v28_6) rfl G4 rfl ?_
  refine A4 (A2 ?_)
  refine A1 rfl (G7 rfl (A0 rfl) B6 (by first | omega | (simp only [C9, A8, szR] at *; omega))) ?_
  refine A5 rfl ?_
  refine A4 ?_
  refine P6 i v (i + 1) (v28_6) ?_ ?_ (Le.trans (H4 [0, 0, 0] rfl) (L5 1 (by exact congrArg (fun z => Own.box b3 43 [AV.int s.Floor, AV.list 2 (s.Cells.map TCell.cs), AV.is v28_6, AV.is v14_5] :: Own.arr v28_6 141 5 z :: _) (Y8 (f := THeld.cs) hx)) ⟨rfl, rfl, rfl, rfl, rfl, trivial⟩))
  ·omega
  omega
 intro h20
 have k20 := of_decide_eq_false h20; try simp only [A9] at k20
 have hge : i = s.Held.length := by omega
 rw [hge, List.take_length]
 refine G9 ?_
 refine A3 (A2 ?_)
 refine A1 rfl (G5 0 rfl (A0 rfl) rfl E6 C3 rfl) ?_
 refine D7 2 rfl rfl rfl (A0 rfl) (A0 rfl) (F0 _) rfl C3 rfl ?_
 refine A4 ?_
 refine C5 ?_
 exact M3 [4, 4, 1, 3] (v, v14_5) (trivial) rfl (by rfl) (P7 rfl (M2 (ys := _) 2 rfl rfl E6 C3 rfl))
theorem Aq4 (s : TState) (y : Value × Value) (n : Int) (hlen : s.Held.length ≤ 1048576) : GSpec Tryz.prog 128 [AV.agg (TState.ocs s y), AV.int n] (TState.ow s y) (fun _ : Unit => True) (fun _ => TState.ow s y) (fun _ => AV.tup [AV.agg (heldFO s.Held n).1.cs, AV.bool (heldFO s.Held n).2]) := by
 obtain ⟨he, hhe⟩ : ∃ he, heldFO s.Held n = he := ⟨_, rfl⟩
 rw [hhe]
 refine I9 Tryz.func128 rfl Tryz.ntmps128 rfl ?_
 refine A3 (A2 ?_)
 refine O3 rfl rfl rfl rfl (A0 rfl) ?_
 intro b2
 refine G3 rfl rfl rfl rfl Tryz.zeroValue141 rfl ?_
 intro b4
 refine A1 rfl (B7 rfl F8) ?_
 refine A4 (A3 (A3 (A2 ?_)))
 refine A1 rfl (B1 2 rfl C0 rfl G4 (A0 rfl) rfl) ?_
 refine A1 rfl (B0 1 rfl (A0 rfl) rfl L8 rfl) ?_
 refine A1 rfl (V8 2 rfl E0 (A0 rfl) rfl) ?_
 refine A1 rfl (B9 rfl B6) ?_
 refine A4 (D1 ?_)
 refine J6 [(1, _), (4, _), (9, _), (10, _)] _ (fun (i : Nat) => i ≤ s.Held.length ∧ ∀ j y, j < i → s.Held[j]? = some y → (y.Txn == n) = false) (fun (i : Nat) => []) (fun (i : Nat) => [(11, AV.int i)]) (fun (i : Nat) => s.Held.length - i) (0) ?_ (K0 ⟨rfl, rfl, rfl, rfl, rfl, trivial⟩) ?_
 ·exact ⟨Nat.zero_le _, fun j y hj => by omega⟩
 intro i hinv
 refine A3 (A2 ?_)
 refine A1 rfl (K5 rfl (A0 rfl) (A0 rfl)) ?_
 refine A4 (A3 ?_)
 refine C4 (A0 rfl) ?_ ?_
 ·intro h12
  have k12 := of_decide_eq_true h12; try simp only [A9] at k12
  have hlt : i < s.Held.length := by omega
  obtain ⟨x, hx⟩ := get_some hlt
  have hrow : (s.Held.map THeld.cs)[((i : Nat) : Int).toNat]? = some x.cs := by (rw [Int.toNat_natCast, List.getElem?_map, hx]; rfl)
  refine C8 (A3 (D1 (A3 (A2 ?_))))
  refine A1 rfl (U2 2 rfl E0 D4 (A0 rfl) rfl (A0 rfl) (by omega) (by first | omega | (simp only [A9]; omega))) ?_
  refine A1 rfl (f9 2 rfl (A0 rfl) rfl J3 D4 hrow (by decide)) ?_
  refine G3 rfl rfl rfl rfl Tryz.zeroValue141 rfl ?_
  intro b7
  refine D7 0 rfl rfl rfl (A0 rfl) (A0 rfl) (F0 _) rfl D4 rfl ?_
  refine A4 (A3 (A2 ?_))
  refine A1 rfl (B1 0 rfl F5 rfl B4 (A0 rfl) rfl) ?_
  refine A1 rfl (B0 0 rfl (A0 rfl) rfl C2 rfl) ?_
  refine A5 rfl ?_
  refine A1 rfl (O7 rfl (A0 rfl) (A0 rfl)) ?_
  refine A4 ?_
  refine C4 (A0 rfl) ?_ ?_
  ·intro h18
   have k18 := O1 h18; try simp only [A9] at k18
   have he9 : he = (x, true) := by (rw [← hhe]; unfold heldFO findH; rw [AA9 hx h18 hinv.2])
   rw [he9]
   refine A3 (A2 ?_)
   refine A1 rfl (G5 0 rfl (A0 rfl) rfl J3 D4 rfl) ?_
   refine D7 1 rfl rfl rfl (A0 rfl) (A0 rfl) (F0 _) rfl D4 rfl ?_
   refine A1 rfl (B7 rfl F8) ?_
   refine A4 ?_
   refine C5 ?_
   exact M3 [3, 3] () (trivial) rfl (by rfl) (T2 rfl (by decide) (F2 (M2 (ys := _) 1 rfl rfl J3 D4 rfl) (F2 (B8 rfl (by rfl)) L7)))
  intro h18
  have k18 := O0 h18; try simp only [A9] at k18
  refine C8 (A2 ?_)
  refine A1 rfl (G7 rfl (A0 rfl) B6 (by first | omega | (simp only [C9, A8, szR] at *; omega))) ?_
  refine A5 rfl ?_
  refine A4 ?_
  refine L9 i (i + 1) ?_ ?_ (U7 1 ⟨rfl, rfl, rfl, rfl, rfl, trivial⟩)
  ·exact ⟨by omega, fun j y hj hy => if hji : j < i then hinv.2 j y hji hy else (by have e : j = i := (by omega); subst e; rw [hx] at hy; injection hy with hy; subst hy; exact h18)⟩
  omega
 intro h12
 have k12 := of_decide_eq_false h12; try simp only [A9] at k12
 have hge : s.Held.length ≤ i := by omega
 have he9 : he = (zHeld, false) := by (rw [← hhe]; unfold heldFO findH; rw [AT5 fun j y hy => hinv.2 j y (Nat.lt_of_lt_of_le (List.getElem?_eq_some_iff.1 hy).1 hge) hy])
 rw [he9]
 refine G9 ?_
 refine A3 (A2 ?_)
 refine A1 rfl (P0 (places := #[(0, 1), (1, 1), (2, 1), (3, 1), (4, 1)]) rfl F5 Tryz.zeroValue141 (fun w => by kernel_rfl) rfl I2 rfl) ?_
 refine D7 0 rfl rfl rfl (A0 rfl) (A0 rfl) (F0 _) rfl D4 rfl ?_
 refine A1 rfl (B7 rfl F8) ?_
 refine A4 ?_
 refine C5 ?_
 refine Z9 0 3 1 rfl rfl (T6 2 rfl rfl (T6 3 rfl rfl Q1)) ?_
 refine Z9 0 4 3 rfl rfl (T6 2 rfl rfl (T6 3 rfl rfl Q1)) ?_
 exact M3 [2, 2] () (trivial) rfl (by rfl) (T2 rfl (by decide) (F2 (M2 (ys := _) 0 rfl rfl J3 D4 rfl) (F2 (B8 rfl (by rfl)) L7)))
theorem Ax1 (s : TState) (y : Value × Value) (r : TRec) (g : SO s) (hs : s.size ≤ 300000) (hrs : r.size ≤ 300000) : GSpec Tryz.prog 164 [AV.agg (TState.ocs s y), AV.agg r.cs] (TState.ow s y) (fun _ : Value × Value => True) (fun x => TState.ow s y ++ TState.ow (applyS s r).1 x) (fun x => AV.tup [AV.agg (TState.ocs (applyS s r).1 x), AV.bool (applyS s r).2]) := by
 obtain ⟨hs1, hs2, hs3, hs4, hs5⟩ := W1 hs
 have hgc := g.cells
 have hgh := g.hsort
 have hgt := g.tsort
 have hr2 : r.size = sizeL (fun x : Str => x.length) r.Reads + sizeL TWrite.size r.Writes := rfl
 have hr3 := O2 (f := fun x : Str => x.length) (l := r.Reads)
 have hr4 := O2 (f := TWrite.size) (l := r.Writes)
 have hho := AD7 s.Held r.Txn
 have hto := Af2 s.Told r.Txn
 obtain ⟨h, hh⟩ : ∃ h, (heldFO s.Held r.Txn).1 = h := ⟨_, rfl⟩
 have hf1 : hasH s.Held r.Txn = true → findH s.Held r.Txn = some h := fun e => by
  rw [← hho] at e
  unfold heldFO at hh e
  cases hf : findH s.Held r.Txn with
  | none => rw [hf] at e; cases e
  | some x => rw [hf] at hh; exact congrArg some hh
 have hf0 : hasH s.Held r.Txn = false → findH s.Held r.Txn = none := fun e => AI2.2 e
 have hhs : hasH s.Held r.Txn = true → h.size ≤ 300000 ∧ 1 ≤ h.Time := fun e => by
  obtain ⟨h1, h2⟩ := AI1 (hf1 e)
  obtain ⟨i, hi⟩ := List.getElem?_of_mem h1
  exact ⟨(X8 hs2 hi).1, g.times h h1⟩
 have hlen := AF3 s.Held r.Txn
 have hll : (lessH s.Held r.Txn).length ≤ s.Held.length := List.length_filter_le _ _
 refine I9 Tryz.func164 rfl Tryz.ntmps164 rfl ?_
 refine A3 (A2 ?_)
 refine O3 rfl rfl rfl rfl (A0 rfl) ?_
 intro b2
 refine O3 rfl rfl rfl rfl (A0 rfl) ?_
 intro b3
 refine G3 rfl rfl rfl rfl Tryz.zeroValue43 rfl ?_
 intro b4
 refine A1 rfl (B7 rfl F8) ?_
 refine A4 (A3 (A2 ?_))
 refine A1 rfl (G5 2 rfl (A0 rfl) rfl E6 C3 rfl) ?_
 refine J9 [3, 3] rfl rfl rfl rfl Tryz.call199 rfl (Ai3 s y (by omega)) (A7 (A0 rfl) C6) rfl ?_
 intro x14 ok14
 refine G3 rfl rfl rfl rfl Tryz.zeroValue43 rfl ?_
 intro b6
 refine D7 0 rfl rfl rfl (A0 rfl) (A0 rfl) (F0 _) rfl C3 rfl ?_
 refine A4 (A3 ?_)
 refine N7 (by first | (simp only [TState.ow, TState.ocs, pick, S4, S0, R7, Q4, R8, List.nil_append, S5, S1, List.append_nil, Q3, List.take_zero, Q5, List.drop_zero]; exact rfl) | exact rfl) ?_
 refine A2 ?_
 refine A1 rfl (G5 7 rfl (A0 rfl) rfl E6 C3 rfl) ?_
 refine A1 rfl (B1 1 rfl B3 rfl B4 (A0 rfl) rfl) ?_
 refine A1 rfl (B0 6 rfl (A0 rfl) rfl C2 rfl) ?_
 refine J9 [1, 1] rfl rfl rfl rfl Tryz.call128 rfl (Aq4 s y r.Txn (by omega)) (A7 (A0 rfl) (A7 (A0 rfl) C6)) rfl ?_
 intro x19 ok19
 refine A5 rfl ?_
 refine A1 rfl (I8 rfl (A0 rfl) rfl) ?_
 refine A1 rfl (I8 rfl (A0 rfl) rfl) ?_
 refine G3 rfl rfl rfl rfl Tryz.zeroValue141 rfl ?_
 intro b7
 refine D7 0 rfl rfl rfl (A0 rfl) (A0 rfl) (F0 _) rfl D4 rfl ?_
 refine B5 rfl ?_
 refine A4 (A3 ?_)
 refine N7 (by first | (simp only [TState.ow, TState.ocs, pick, S4, S0, R7, Q4, R8, List.nil_append, S5, S1, List.append_nil, Q3, List.take_zero, Q5, List.drop_zero]; exact rfl) | exact rfl) ?_
 refine A2 ?_
 refine A1 rfl (G5 8 rfl (A0 rfl) rfl E6 C3 rfl) ?_
 refine A1 rfl (B1 1 rfl B3 rfl B4 (A0 rfl) rfl) ?_
 refine A1 rfl (B0 7 rfl (A0 rfl) rfl C2 rfl) ?_
 refine A1 rfl (f7 rfl Tryz.call200 rfl (AM9 s r.Txn (by omega)) (Z2 (C1 (U0 (C1 (D8 _ _) (C1 (D5 _) (C1 (D8 _ _) D6)))) (C1 (D5 _) D6))) (P3 (q6 (A0 rfl) (l6 (H7 M9 (H7 M9 (H7 (N8 (G2 (i := 1) rfl) J7) (H7 (N8 (G2 (i := 2) rfl) J7) V9)))))) (P3 (evb (A0 rfl)) X3))) ?_
 refine A5 rfl ?_
 refine A1 rfl (I8 rfl (A0 rfl) rfl) ?_
 refine A1 rfl (I8 rfl (A0 rfl) rfl) ?_
 refine G3 rfl rfl rfl rfl Tryz.zeroValue144 rfl ?_
 intro b9
 refine D7 0 rfl rfl rfl (A0 rfl) (A0 rfl) (F0 _) rfl K7 rfl ?_
 refine B5 rfl ?_
 refine A4 (A3 (D1 (A3 ?_)))
 rw [hh]
 rw [hho, hto]
 refine N7 (by first | (simp only [TState.ow, TState.ocs, pick, S4, S0, R7, Q4, R8, List.nil_append, S5, S1, List.append_nil, Q3, List.take_zero, Q5, List.drop_zero]; exact rfl) | exact rfl) ?_
 refine A2 ?_
 refine A1 rfl (B1 0 rfl B3 rfl B4 (A0 rfl) rfl) ?_
 refine A1 rfl (B0 8 rfl (A0 rfl) rfl C2 rfl) ?_
 refine A1 rfl (O7 rfl (A0 rfl) B6) ?_
 refine B5 rfl ?_
 refine A4 ?_
 refine C4 (A0 rfl) ?_ ?_
 ·intro h29
  have k29 := O1 h29; try simp only [A9] at k29
  have hk : r.Kind = 4 := by simpa using h29
  have he : applyS s r = (⟨r.Time, s.Cells, s.Held, s.Told⟩, decide (s.Floor < r.Time)) := by (unfold applyS; rw [if_pos hk])
  rw [he]
  refine A3 ?_
  refine N7 (by first | (simp only [TState.ow, TState.ocs, pick, S4, S0, R7, Q4, R8, List.nil_append, S5, S1, List.append_nil, Q3, List.take_zero, Q5, List.drop_zero]; exact rfl) | exact rfl) ?_
  refine A2 ?_
  refine A1 rfl (B1 2 rfl B3 rfl B4 (A0 rfl) rfl) ?_
  refine A1 rfl (B0 8 rfl (A0 rfl) rfl C2 rfl) ?_
  refine A1 rfl (B1 0 rfl C0 rfl B4 (A0 rfl) rfl) ?_
  refine K3 4 rfl rfl rfl (A0 rfl) (A0 rfl) (K4 _ _) rfl B4 rfl ?_
  refine A4 (A3 ?_)
  refine N7 (by first | (simp only [TState.ow, TState.ocs, pick, S4, S0, R7, Q4, R8, List.nil_append, S5, S1, List.append_nil, Q3, List.take_zero, Q5, List.drop_zero]; exact rfl) | exact rfl) ?_
  refine AWP.le (H4 [4, 7, 7] rfl) ?_
  refine Y3 _ 7 (.pure 0 (.pure 1 (.pure 2 (.pure 3 (.pure 4 (.pure 5 (.e1 6 .nil))))))) (by kernel_rfl) (by kernel_rfl) rfl (V3 3) ?_
  refine G6 rfl rfl rfl (fun ext => G5 0 rfl (A0 rfl) rfl E6 C3 rfl) ?_
  refine G6 rfl rfl rfl (fun ext => B1 2 rfl B3 rfl B4 (A0 rfl) rfl) ?_
  refine G6 rfl rfl rfl (fun ext => B0 1 rfl (A0 rfl) rfl C2 rfl) ?_
  refine G6 rfl rfl rfl (fun ext => B1 0 rfl C0 rfl B4 (A0 rfl) rfl) ?_
  refine G6 rfl rfl rfl (fun ext => B0 2 rfl (A0 rfl) rfl C2 rfl) ?_
  refine G6 rfl rfl rfl (fun ext => O8 rfl (A0 rfl) (A0 rfl)) ?_
  refine X1 ?_
  refine AL6 rfl rfl rfl (n1 9 rfl rfl (A0 rfl) (A0 rfl) (F0 _) rfl C3 rfl) (fun a _ => (by first | exact F3 rfl | exact F3 (List.append_assoc _ _ _) | exact I3)) ?_
  intro _ _
  refine d7 ?_
  refine B5 rfl ?_
  refine A4 ?_
  refine C5 ?_
  exact M3 [5, 5, 5, 5] (x14.1, x14.2) (trivial) rfl (by rfl) (T2 rfl (by decide) (F2 (M2 (ys := _) 9 rfl rfl E6 C3 rfl) (F2 (B8 rfl (by rfl)) L7)))
 intro h29
 have k29 := O0 h29; try simp only [A9] at k29
 have hk4 : r.Kind ≠ 4 := by simpa using h29
 refine A3 (A2 ?_)
 refine A5 rfl ?_
 refine B5 rfl ?_
 refine A4 ?_
 refine C4 (A0 rfl) ?_ ?_
 ·intro h42
  have he : applyS s r = (s, false) := by (unfold applyS; rw [if_neg hk4, if_pos h42])
  rw [he]
  refine A3 (A2 ?_)
  refine A1 rfl (G5 4 rfl (A0 rfl) rfl E6 C3 rfl) ?_
  refine D7 7 rfl rfl rfl (A0 rfl) (A0 rfl) (F0 _) rfl C3 rfl ?_
  refine A1 rfl (B7 rfl F8) ?_
  refine A4 ?_
  refine C5 ?_
  exact M3 [2, 2, 3, 3] (x14.1, x14.2) (trivial) rfl (by rfl) (T2 rfl (by decide) (F2 (M2 (ys := _) 7 rfl rfl E6 C3 rfl) (F2 (B8 rfl (by rfl)) L7)))
 intro h42
 have hT : hasT s.Told r.Txn = false := h42
 have hnT : ¬ hasT s.Told r.Txn = true := by (rw [hT]; decide)
 refine A3 (A2 ?_)
 refine A1 rfl (B1 0 rfl B3 rfl B4 (A0 rfl) rfl) ?_
 refine A1 rfl (B0 8 rfl (A0 rfl) rfl C2 rfl) ?_
 refine A1 rfl (O7 rfl (A0 rfl) B6) ?_
 refine B5 rfl ?_
 refine A4 ?_
 refine C4 (A0 rfl) ?_ ?_
 ·intro h45
  have k45 := O1 h45; try simp only [A9] at k45
  have hk1 : r.Kind = 1 := by simpa using h45
  have he : applyS s r = (⟨r.Time, s.Cells, insH (hOf r) s.Held, s.Told⟩, (!hasH s.Held r.Txn && decide (s.Floor < r.Time)) && fits s r.Reads r.Writes) := by (unfold applyS; rw [if_neg hk4, if_neg hnT, if_pos hk1])
  rw [he]
  refine A3 ?_
  refine AWP.le (t2 [5] 4 (.box b6 43 [AV.int s.Floor, AV.list 2 (s.Cells.map TCell.cs), AV.list 5 (s.Held.map THeld.cs), AV.is x14.2]) rfl rfl ⟨rfl, rfl, (H7 M9 (H7 M9 (H7 (N8 (G2 (i := 0) rfl) J7) (H7 M9 V9))))⟩ (T6 2 rfl rfl (T6 3 rfl rfl Q1))) ?_
  refine N7 (by first | (simp only [TState.ow, TState.ocs, pick, S4, S0, R7, Q4, R8, List.nil_append, S5, S1, List.append_nil, Q3, List.take_zero, Q5, List.drop_zero]; exact rfl) | exact rfl) ?_
  refine AWP.le (H4 [4, 6] rfl) ?_
  refine S3 _ [(0, false), (1, false), (2, false), (3, false), (4, false), (5, false), (6, false), (7, false), (8, false), (9, false), (10, false), (12, false), (13, false), (11, true), (14, true), (15, false), (16, true)] (by kernel_rfl) (by kernel_rfl) rfl (V3 2) ?_
  refine F1 rfl rfl rfl (fun ext => B1 2 rfl C0 rfl G4 (A0 rfl) rfl) ?_
  refine F1 rfl rfl rfl (fun ext => B0 0 rfl (A0 rfl) rfl L8 rfl) ?_
  refine F1 rfl rfl rfl (fun ext => B1 1 rfl B3 rfl B4 (A0 rfl) rfl) ?_
  refine F1 rfl rfl rfl (fun ext => B0 1 rfl (A0 rfl) rfl C2 rfl) ?_
  refine F1 rfl rfl rfl (fun ext => B1 2 rfl B3 rfl B4 (A0 rfl) rfl) ?_
  refine F1 rfl rfl rfl (fun ext => B0 1 rfl (A0 rfl) rfl C2 rfl) ?_
  refine F1 rfl rfl rfl (fun ext => B1 3 rfl B3 rfl B4 (A0 rfl) rfl) ?_
  refine F1 rfl rfl rfl (fun ext => B0 1 rfl (A0 rfl) rfl C2 rfl) ?_
  refine F1 rfl rfl rfl (fun ext => B1 4 rfl B3 rfl N0 (A0 rfl) rfl) ?_
  refine F1 rfl rfl rfl (fun ext => B0 1 rfl (A0 rfl) rfl P1 rfl) ?_
  refine F1 rfl rfl rfl (fun ext => E8 rfl Tryz.call202 rfl (AN1 _ (by omega)) (A7 (A0 rfl) C6)) ?_
  refine F1 rfl rfl rfl (fun ext => B1 5 rfl B3 rfl K2 (A0 rfl) rfl) ?_
  refine F1 rfl rfl rfl (fun ext => B0 1 rfl (A0 rfl) rfl M1 rfl) ?_
  refine T5 rfl rfl rfl (Y7 rfl G0 H6) (fun a _ => (by first | exact F3 rfl | exact F3 (List.append_assoc _ _ _) | exact I3)) ?_
  intro v60 _
  refine T5 rfl rfl rfl (Ae9 [9] (fun _ => rfl) (fun _ => N8 (G2 (i := 0) rfl) J7) (fun _ => (T6 4 rfl rfl (T6 5 rfl rfl Q1))) (O4 (by' := 40) 9 rfl G0 Tryz.type101 rfl rfl rfl rfl rfl rfl (A0 rfl) (A0 rfl) rfl (by simp only [L6, A9]; omega))) (fun a _ => (by first | exact F3 rfl | exact F3 (List.append_assoc _ _ _) | exact I3)) ?_
  intro v63_1 _
  refine F1 rfl rfl rfl (fun ext => P0 (places := #[(0, 1), (1, 1), (2, 1), (3, 1), (4, 1)]) rfl F5 Tryz.zeroValue141 (fun w => by kernel_rfl) rfl (D3 (A0 rfl) (K4 _ _) (D3 (A0 rfl) (K4 _ _) (D3 (A0 rfl) (K4 _ _) (D3 (A0 rfl) (U8 _ _) (D3 (A0 rfl) (U8 _ _) I2))))) rfl) ?_
  refine T5 rfl rfl rfl (l8 [] rfl Tryz.call201 rfl (AQ9 s.Held (hOf r) hgh (by omega)) (A7 (A0 rfl) (A7 (A0 rfl) C6)) rfl) (fun a _ => (by first | exact F3 rfl | exact F3 (List.append_assoc _ _ _) | exact I3)) ?_
  intro x65 ok65
  refine g6 ?_
  refine A1 rfl (B1 2 rfl C0 rfl G4 (A0 rfl) rfl) ?_
  refine V2 9 rfl fun one_x65 => ?_
  refine K3 0 rfl rfl rfl (A0 rfl) (A0 rfl) (U9 one_x65) rfl G4 rfl ?_
  refine A4 (A3 ?_)
  refine N7 (by first | (simp only [TState.ow, TState.ocs, pick, S4, S0, R7, Q4, R8, List.nil_append, S5, S1, List.append_nil, Q3, List.take_zero, Q5, List.drop_zero]; exact rfl) | exact rfl) ?_
  refine A2 ?_
  refine A1 rfl (B1 2 rfl B3 rfl B4 (A0 rfl) rfl) ?_
  refine A1 rfl (B0 1 rfl (A0 rfl) rfl C2 rfl) ?_
  refine A1 rfl (B1 0 rfl C0 rfl B4 (A0 rfl) rfl) ?_
  refine K3 0 rfl rfl rfl (A0 rfl) (A0 rfl) (K4 _ _) rfl B4 rfl ?_
  refine A4 (A3 ?_)
  refine N7 (by first | (simp only [TState.ow, TState.ocs, pick, S4, S0, R7, Q4, R8, List.nil_append, S5, S1, List.append_nil, Q3, List.take_zero, Q5, List.drop_zero]; exact rfl) | exact rfl) ?_
  refine AWP.le (H4 [0, 0, 6, 2, 2] rfl) ?_
  refine Y3 _ 19 (.pure 0 (.pure 1 (.pure 2 (.pure 3 (.pure 4 (.pure 5 (.pure 6 (.pure 7 (.pure 8 (.pure 9 (.pure 10 (.pure 11 (.pure 12 (.pure 13 (.pure 14 (.pure 15 (.pure 16 (.pure 17 (.e1 18 .nil))))))))))))))))))) (by kernel_rfl) (by kernel_rfl) rfl (V3 5) ?_
  refine G6 rfl rfl rfl (fun ext => G5 0 rfl (A0 rfl) rfl E6 C3 rfl) ?_
  refine G6 rfl rfl rfl (fun ext => B9 rfl (A0 rfl)) ?_
  refine G6 rfl rfl rfl (fun ext => M5 rfl (A0 rfl)) ?_
  refine G6 rfl rfl rfl (fun ext => B9 rfl (A0 rfl)) ?_
  refine W5 rfl rfl (H1 rfl rfl rfl) (fun hc ext => B1 2 rfl B3 rfl B4 (A0 rfl) rfl) ?_
  refine W5 rfl rfl (H1 rfl rfl rfl) (fun hc ext => B0 1 rfl (A6 rfl hc) rfl C2 rfl) ?_
  refine W5 rfl rfl (H1 rfl rfl rfl) (fun hc ext => B1 0 rfl C0 rfl B4 (A0 rfl) rfl) ?_
  refine W5 rfl rfl (H1 rfl rfl rfl) (fun hc ext => B0 2 rfl (A6 rfl hc) rfl C2 rfl) ?_
  refine W5 rfl rfl (H1 rfl rfl rfl) (fun hc ext => O8 rfl (A6 rfl hc) (A6 rfl hc)) ?_
  refine G6 rfl rfl rfl (fun ext => I1 rfl (A0 rfl) (F9 rfl)) ?_
  refine G6 rfl rfl rfl (fun ext => B9 rfl (A0 rfl)) ?_
  refine W5 rfl rfl (H1 rfl rfl rfl) (fun hc ext => G5 2 rfl (A0 rfl) rfl E6 C3 rfl) ?_
  refine W5 rfl rfl (H1 rfl rfl rfl) (fun hc ext => B1 4 rfl B3 rfl N0 (A0 rfl) rfl) ?_
  refine W5 rfl rfl (H1 rfl rfl rfl) (fun hc ext => B0 1 rfl (A6 rfl hc) rfl P1 rfl) ?_
  refine W5 rfl rfl (H1 rfl rfl rfl) (fun hc ext => B1 5 rfl B3 rfl K2 (A0 rfl) rfl) ?_
  refine W5 rfl rfl (H1 rfl rfl rfl) (fun hc ext => B0 1 rfl (A6 rfl hc) rfl M1 rfl) ?_
  refine W5 rfl rfl (H1 rfl rfl rfl) (fun hc ext => f7 rfl Tryz.call203 rfl (AX4 s r.Reads r.Writes (by omega) (by omega)) (D5 _) (P3 (q6 (A6 rfl hc) (l6 (H7 M9 (H7 M9 (H7 (N8 (G2 (i := 3) rfl) J7) (H7 (N8 (G2 (i := 4) rfl) J7) V9)))))) (P3 (evb (A6 rfl hc)) (P3 (evb (A6 rfl hc)) X3)))) ?_
  refine G6 rfl rfl rfl (fun ext => I1 rfl (A0 rfl) (F9 rfl)) ?_
  refine X1 ?_
  refine AL6 rfl rfl rfl (n1 8 rfl rfl (A0 rfl) (A0 rfl) (F0 _) rfl C3 rfl) (fun a _ => (by first | exact F3 rfl | exact F3 (List.append_assoc _ _ _) | exact I3)) ?_
  intro _ _
  refine d7 ?_
  refine B5 rfl ?_
  refine A4 ?_
  refine C5 ?_
  exact M3 [3, 3, 7, 5] (x65, x14.2) (trivial) rfl (by rfl) (T2 rfl (by decide) (F2 (M2 (ys := _) 8 rfl rfl E6 C3 rfl) (F2 (B8 rfl (by rfl)) L7)))
 intro h45
 have k45 := O0 h45; try simp only [A9] at k45
 have hk1 : r.Kind ≠ 1 := by simpa using h45
 have hap : applyS s r = (if r.Yes = true then (match findH s.Held r.Txn with | none => (s, false) | some h => if r.Time < h.Time then (s, false) else if (putP s.Cells h.Writes r.Time).2 = true then (doneS s r (if s.Floor < r.Time then r.Time else s.Floor) (putP s.Cells h.Writes r.Time).1, true) else (s, false)) else (doneS s r s.Floor s.Cells, true)) := by (unfold applyS; rw [if_neg hk4, if_neg hnT, if_neg hk1]; rfl)
 refine A3 (A2 ?_)
 refine A1 rfl (B1 6 rfl B3 rfl J1 (A0 rfl) rfl) ?_
 refine A1 rfl (B0 8 rfl (A0 rfl) rfl K9 rfl) ?_
 refine B5 rfl ?_
 refine A4 ?_
 refine C4 (A0 rfl) ?_ ?_
 ·intro h88
  refine A3 (A3 (A2 ?_))
  refine A5 rfl ?_
  refine A1 rfl (M5 rfl (A0 rfl)) ?_
  refine A5 rfl ?_
  refine H8 rfl (fun hc => B1 1 rfl F5 rfl B4 (A0 rfl) rfl) ?_
  refine H8 rfl (fun hc => B0 1 rfl (A6 rfl hc) rfl C2 rfl) ?_
  refine H8 rfl (fun hc => B1 2 rfl B3 rfl B4 (A0 rfl) rfl) ?_
  refine H8 rfl (fun hc => B0 8 rfl (A6 rfl hc) rfl C2 rfl) ?_
  refine H8 rfl (fun hc => O8 rfl (A6 rfl hc) (A6 rfl hc)) ?_
  refine A1 rfl (R5 rfl (A0 rfl) (F9 rfl)) ?_
  refine A4 ?_
  refine C4 (A0 rfl) ?_ ?_
  ·intro h99
   have he : applyS s r = (s, false) := by (rw [hap, if_pos h88]; cases e : hasH s.Held r.Txn with | false => (rw [hf0 e]) | true => (rw [hf1 e]; dsimp only; rw [if_pos (by rw [e] at h99; simpa using h99)]))
   rw [he]
   refine A3 ?_
   refine N7 (by first | (simp only [TState.ow, TState.ocs, pick, S4, S0, R7, Q4, R8, List.nil_append, S5, S1, List.append_nil, Q3, List.take_zero, Q5, List.drop_zero]; exact rfl) | exact rfl) ?_
   refine A2 ?_
   refine A1 rfl (G5 4 rfl (A0 rfl) rfl E6 C3 rfl) ?_
   refine D7 7 rfl rfl rfl (A0 rfl) (A0 rfl) (F0 _) rfl C3 rfl ?_
   refine A1 rfl (B7 rfl F8) ?_
   refine A4 ?_
   refine C5 ?_
   exact M3 [2, 2, 3, 3] (x14.1, x14.2) (trivial) rfl (by rfl) (T2 rfl (by decide) (F2 (M2 (ys := _) 7 rfl rfl E6 C3 rfl) (F2 (B8 rfl (by rfl)) L7)))
  intro h99
  simp only [Bool.or_eq_false_iff, Bool.not_eq_false', decide_eq_false_iff_not] at h99
  obtain ⟨hhas, hnlt⟩ := h99
  obtain ⟨hz1, hz2⟩ := hhs hhas
  have hz3 : h.size = sizeL (fun x => x.length) h.Reads + sizeL TWrite.size h.Writes := rfl
  refine C8 (A3 ?_)
  refine N7 (by first | (simp only [TState.ow, TState.ocs, pick, S4, S0, R7, Q4, R8, List.nil_append, S5, S1, List.append_nil, Q3, List.take_zero, Q5, List.drop_zero]; exact rfl) | exact rfl) ?_
  refine A2 ?_
  refine A1 rfl (B1 1 rfl C0 rfl N2 (A0 rfl) rfl) ?_
  refine A1 rfl (B0 9 rfl (A0 rfl) rfl O9 rfl) ?_
  refine A1 rfl (B1 4 rfl F5 rfl K2 (A0 rfl) rfl) ?_
  refine A1 rfl (B0 1 rfl (A0 rfl) rfl M1 rfl) ?_
  refine A1 rfl (B1 2 rfl B3 rfl B4 (A0 rfl) rfl) ?_
  refine A1 rfl (B0 8 rfl (A0 rfl) rfl C2 rfl) ?_
  refine A1 rfl (E8 rfl Tryz.call204 rfl (AR0 s.Cells h.Writes r.Time hgc (by omega) (by omega) (by omega)) (A7 (A0 rfl) (A7 (A0 rfl) (A7 (A0 rfl) C6)))) ?_
  refine A5 rfl ?_
  refine A1 rfl (I8 rfl (A0 rfl) rfl) ?_
  refine A1 rfl (I8 rfl (A0 rfl) rfl) ?_
  refine B5 rfl ?_
  refine B5 rfl ?_
  refine A4 (A3 (A3 (A2 ?_)))
  refine A5 rfl ?_
  refine A1 rfl (M5 rfl (A0 rfl)) ?_
  refine A4 ?_
  refine C4 (A0 rfl) ?_ ?_
  ·intro h112
   have he : applyS s r = (s, false) := by (rw [hap, if_pos h88, hf1 hhas]; dsimp only; rw [if_neg (by omega), if_neg (by simpa using h112)])
   rw [he]
   refine A3 (A2 ?_)
   refine A1 rfl (G5 4 rfl (A0 rfl) rfl E6 C3 rfl) ?_
   refine D7 7 rfl rfl rfl (A0 rfl) (A0 rfl) (F0 _) rfl C3 rfl ?_
   refine A1 rfl (B7 rfl F8) ?_
   refine A4 ?_
   refine C5 ?_
   exact M3 [2, 2, 3, 3] (x14.1, x14.2) (trivial) rfl (by rfl) (T2 rfl (by decide) (F2 (M2 (ys := _) 7 rfl rfl E6 C3 rfl) (F2 (B8 rfl (by rfl)) L7)))
  intro h112
  have he : applyS s r = (doneS s r (if s.Floor < r.Time then r.Time else s.Floor) (putP s.Cells h.Writes r.Time).1, true) := by (rw [hap, if_pos h88, hf1 hhas]; dsimp only; rw [if_neg (by omega), if_pos (by simpa using h112)])
  rw [he]
  unfold doneS
  refine C8 (A3 ?_)
  refine N7 (by first | (simp only [TState.ow, TState.ocs, pick, S4, S0, R7, Q4, R8, List.nil_append, S5, S1, List.append_nil, Q3, List.take_zero, Q5, List.drop_zero]; exact rfl) | exact rfl) ?_
  refine A2 ?_
  refine A5 rfl ?_
  refine A1 rfl (B1 1 rfl C0 rfl N2 (A0 rfl) rfl) ?_
  refine K3 4 rfl rfl rfl (A0 rfl) (A0 rfl) (U8 _ _) rfl N2 rfl ?_
  refine A4 ?_
  refine N7 (by first | (simp only [TState.ow, TState.ocs, pick, S4, S0, R7, Q4, R8, List.nil_append, S5, S1, List.append_nil, Q3, List.take_zero, Q5, List.drop_zero]; exact rfl) | exact rfl) ?_
  refine A2 ?_
  refine A1 rfl (B1 0 rfl C0 rfl B4 (A0 rfl) rfl) ?_
  refine A1 rfl (B0 9 rfl (A0 rfl) rfl C2 rfl) ?_
  refine A1 rfl (B1 2 rfl B3 rfl B4 (A0 rfl) rfl) ?_
  refine A1 rfl (B0 8 rfl (A0 rfl) rfl C2 rfl) ?_
  refine A1 rfl (E8 rfl Tryz.call62 rfl (AN2 _ _) (A7 (A0 rfl) (A7 (A0 rfl) C6))) ?_
  refine A1 rfl (B1 0 rfl C0 rfl B4 (A0 rfl) rfl) ?_
  refine K3 4 rfl rfl rfl (A0 rfl) (A0 rfl) (K4 _ _) rfl B4 rfl ?_
  refine A4 (A3 ?_)
  refine AWP.le (t2 [5, 5] 4 (.box b6 43 [_, _, AV.list 5 (s.Held.map THeld.cs), AV.list 3 (s.Told.map TTold.cs)]) rfl rfl ⟨rfl, rfl, (H7 M9 (H7 M9 (H7 (N8 (G2 (i := 0) rfl) J7) (H7 (N8 (G2 (i := 1) rfl) J7) V9))))⟩ (T6 2 rfl rfl (T6 3 rfl rfl Q1))) ?_
  refine N7 (by first | (simp only [TState.ow, TState.ocs, pick, S4, S0, R7, Q4, R8, List.nil_append, S5, S1, List.append_nil, Q3, List.take_zero, Q5, List.drop_zero]; exact rfl) | exact rfl) ?_
  refine A2 ?_
  refine A1 rfl (B1 2 rfl C0 rfl G4 (A0 rfl) rfl) ?_
  refine A1 rfl (B0 4 rfl (A0 rfl) rfl L8 rfl) ?_
  refine A1 rfl (B1 1 rfl B3 rfl B4 (A0 rfl) rfl) ?_
  refine A1 rfl (B0 6 rfl (A0 rfl) rfl C2 rfl) ?_
  refine J9 [] rfl rfl rfl rfl Tryz.call205 rfl (AT6 s.Held r.Txn (by omega)) (A7 (A0 rfl) (A7 (A0 rfl) C6)) rfl ?_
  intro x126 ok126
  refine A1 rfl (B1 2 rfl C0 rfl G4 (A0 rfl) rfl) ?_
  refine V2 0 rfl fun one_x126 => ?_
  refine K3 5 rfl rfl rfl (A0 rfl) (A0 rfl) (U9 one_x126) rfl G4 rfl ?_
  refine A4 (A3 ?_)
  refine N7 (by first | (simp only [TState.ow, TState.ocs, pick, S4, S0, R7, Q4, R8, List.nil_append, S5, S1, List.append_nil, Q3, List.take_zero, Q5, List.drop_zero]; exact rfl) | exact rfl) ?_
  refine A2 ?_
  refine A1 rfl (B1 3 rfl C0 rfl N4 (A0 rfl) rfl) ?_
  refine A1 rfl (B0 5 rfl (A0 rfl) rfl T4 rfl) ?_
  refine A1 rfl (B1 1 rfl B3 rfl B4 (A0 rfl) rfl) ?_
  refine A1 rfl (B0 7 rfl (A0 rfl) rfl C2 rfl) ?_
  refine A1 rfl (B1 6 rfl B3 rfl J1 (A0 rfl) rfl) ?_
  refine A1 rfl (B0 7 rfl (A0 rfl) rfl K9 rfl) ?_
  refine A1 rfl (B1 2 rfl B3 rfl B4 (A0 rfl) rfl) ?_
  refine A1 rfl (B0 7 rfl (A0 rfl) rfl C2 rfl) ?_
  refine A1 rfl (P0 (places := #[(0, 1), (1, 1), (2, 1)]) rfl K8 Tryz.zeroValue144 (fun w => by kernel_rfl) rfl (D3 (A0 rfl) (K4 _ _) (D3 (A0 rfl) (W7 _) (D3 (A0 rfl) (K4 _ _) I2))) rfl) ?_
  refine J9 [] rfl rfl rfl rfl Tryz.call206 rfl (AF4 s.Told ⟨r.Txn, r.Yes, r.Time⟩ hgt (by omega)) (A7 (A0 rfl) (A7 (A0 rfl) C6)) rfl ?_
  intro x137 ok137
  refine A1 rfl (B1 3 rfl C0 rfl N4 (A0 rfl) rfl) ?_
  refine V2 0 rfl fun one_x137 => ?_
  refine K3 6 rfl rfl rfl (A0 rfl) (A0 rfl) (U9 one_x137) rfl N4 rfl ?_
  refine A4 (A3 ?_)
  refine N7 (by first | (simp only [TState.ow, TState.ocs, pick, S4, S0, R7, Q4, R8, List.nil_append, S5, S1, List.append_nil, Q3, List.take_zero, Q5, List.drop_zero]; exact rfl) | exact rfl) ?_
  refine A2 ?_
  refine A1 rfl (G5 6 rfl (A0 rfl) rfl E6 C3 rfl) ?_
  refine D7 7 rfl rfl rfl (A0 rfl) (A0 rfl) (F0 _) rfl C3 rfl ?_
  refine A1 rfl (B7 rfl F8) ?_
  refine A4 ?_
  refine C5 ?_
  exact M3 [4, 4, 1, 0] (x126, x137) (trivial) rfl (by rfl) (T2 rfl (by decide) (F2 (M2 (ys := _) 7 rfl rfl E6 C3 rfl) (F2 (B8 rfl (by rfl)) L7)))
 intro h88
 have he : applyS s r = (doneS s r s.Floor s.Cells, true) := by (rw [hap, if_neg (by rw [h88]; decide)])
 rw [he]
 unfold doneS
 refine C8 (A3 ?_)
 refine AWP.le (t2 [5, 5] 4 (.box b6 43 [_, _, AV.list 5 (s.Held.map THeld.cs), AV.list 3 (s.Told.map TTold.cs)]) rfl rfl ⟨rfl, rfl, (H7 M9 (H7 M9 (H7 (N8 (G2 (i := 0) rfl) J7) (H7 (N8 (G2 (i := 1) rfl) J7) V9))))⟩ (T6 2 rfl rfl (T6 3 rfl rfl Q1))) ?_
 refine N7 (by first | (simp only [TState.ow, TState.ocs, pick, S4, S0, R7, Q4, R8, List.nil_append, S5, S1, List.append_nil, Q3, List.take_zero, Q5, List.drop_zero]; exact rfl) | exact rfl) ?_
 refine A2 ?_
 refine A1 rfl (B1 2 rfl C0 rfl G4 (A0 rfl) rfl) ?_
 refine A1 rfl (B0 4 rfl (A0 rfl) rfl L8 rfl) ?_
 refine A1 rfl (B1 1 rfl B3 rfl B4 (A0 rfl) rfl) ?_
 refine A1 rfl (B0 6 rfl (A0 rfl) rfl C2 rfl) ?_
 refine J9 [] rfl rfl rfl rfl Tryz.call205 rfl (AT6 s.Held r.Txn (by omega)) (A7 (A0 rfl) (A7 (A0 rfl) C6)) rfl ?_
 intro x126 ok126
 refine A1 rfl (B1 2 rfl C0 rfl G4 (A0 rfl) rfl) ?_
 refine V2 0 rfl fun one_x126 => ?_
 refine K3 5 rfl rfl rfl (A0 rfl) (A0 rfl) (U9 one_x126) rfl G4 rfl ?_
 refine A4 (A3 ?_)
 refine N7 (by first | (simp only [TState.ow, TState.ocs, pick, S4, S0, R7, Q4, R8, List.nil_append, S5, S1, List.append_nil, Q3, List.take_zero, Q5, List.drop_zero]; exact rfl) | exact rfl) ?_
 refine A2 ?_
 refine A1 rfl (B1 3 rfl C0 rfl N4 (A0 rfl) rfl) ?_
 refine A1 rfl (B0 5 rfl (A0 rfl) rfl T4 rfl) ?_
 refine A1 rfl (B1 1 rfl B3 rfl B4 (A0 rfl) rfl) ?_
 refine A1 rfl (B0 7 rfl (A0 rfl) rfl C2 rfl) ?_
 refine A1 rfl (B1 6 rfl B3 rfl J1 (A0 rfl) rfl) ?_
 refine A1 rfl (B0 7 rfl (A0 rfl) rfl K9 rfl) ?_
 refine A1 rfl (B1 2 rfl B3 rfl B4 (A0 rfl) rfl) ?_
 refine A1 rfl (B0 7 rfl (A0 rfl) rfl C2 rfl) ?_
 refine A1 rfl (P0 (places := #[(0, 1), (1, 1), (2, 1)]) rfl K8 Tryz.zeroValue144 (fun w => by kernel_rfl) rfl (D3 (A0 rfl) (K4 _ _) (D3 (A0 rfl) (W7 _) (D3 (A0 rfl) (K4 _ _) I2))) rfl) ?_
 refine J9 [] rfl rfl rfl rfl Tryz.call206 rfl (AF4 s.Told ⟨r.Txn, r.Yes, r.Time⟩ hgt (by omega)) (A7 (A0 rfl) (A7 (A0 rfl) C6)) rfl ?_
 intro x137 ok137
 refine A1 rfl (B1 3 rfl C0 rfl N4 (A0 rfl) rfl) ?_
 refine V2 0 rfl fun one_x137 => ?_
 refine K3 6 rfl rfl rfl (A0 rfl) (A0 rfl) (U9 one_x137) rfl N4 rfl ?_
 refine A4 (A3 ?_)
 refine N7 (by first | (simp only [TState.ow, TState.ocs, pick, S4, S0, R7, Q4, R8, List.nil_append, S5, S1, List.append_nil, Q3, List.take_zero, Q5, List.drop_zero]; exact rfl) | exact rfl) ?_
 refine A2 ?_
 refine A1 rfl (G5 6 rfl (A0 rfl) rfl E6 C3 rfl) ?_
 refine D7 7 rfl rfl rfl (A0 rfl) (A0 rfl) (F0 _) rfl C3 rfl ?_
 refine A1 rfl (B7 rfl F8) ?_
 refine A4 ?_
 refine C5 ?_
 exact M3 [4, 4, 1, 0] (x126, x137) (trivial) rfl (by rfl) (T2 rfl (by decide) (F2 (M2 (ys := _) 7 rfl rfl E6 C3 rfl) (F2 (B8 rfl (by rfl)) L7)))
end Go.Proofs.YtkegepoihkhihaaGreat

namespace Go.M
open Go.AV
structure SB (m : Int) (s : TState) : Prop where
  floor : 0 ≤ s.Floor ∧ s.Floor ≤ m
  leads : ∀ h ∈ s.Held, 0 ≤ h.Lead ∧ h.Lead ≤ 3
theorem sb_apply {m : Int} {s : TState} (g : SB m s) {r : TRec} (h1 : r.Time ≤ m) (h2 : 0 ≤ r.Lead ∧ r.Lead ≤ 3) (h : (applyS s r).2 = true) : SB m (applyS s r).1 := by
  obtain ⟨g1, g2⟩ := g
  have hless : ∀ h ∈ lessH s.Held r.Txn, 0 ≤ h.Lead ∧ h.Lead ≤ 3 := fun k hk => g2 k (Ae0.1 hk).1
  unfold applyS at h ⊢
  by_cases h4 : r.Kind = 4
  · rw [if_pos h4] at h ⊢
    have := of_decide_eq_true h
    exact ⟨⟨by dsimp only; omega, h1⟩, g2⟩
  · rw [if_neg h4] at h ⊢
    by_cases hT : hasT s.Told r.Txn = true
    · rw [if_pos hT] at h; cases h
    · rw [if_neg hT] at h ⊢
      by_cases hk : r.Kind = 1
      · rw [if_pos hk] at h ⊢
        simp only [Bool.and_eq_true, Bool.not_eq_true', decide_eq_true_eq] at h
        refine ⟨⟨by dsimp only; omega, h1⟩, fun k hm => ?_⟩
        rcases AT0.1 hm with rfl | hm
        · exact h2
        · exact g2 k hm
      · rw [if_neg hk] at h ⊢
        by_cases hy : r.Yes = true
        · rw [if_pos hy] at h ⊢
          cases hf : findH s.Held r.Txn with
          | none => rw [hf] at h; cases h
          | some k =>
            rw [hf] at h
            dsimp only at h ⊢
            by_cases hlt : r.Time < k.Time
            · rw [if_pos hlt] at h; cases h
            · rw [if_neg hlt] at h ⊢
              by_cases hp : (putP s.Cells k.Writes r.Time).2 = true
              · rw [if_pos hp]; exact ⟨by unfold doneS; dsimp only; split <;> omega, hless⟩
              · rw [if_neg hp] at h; cases h
        · rw [if_neg hy]; exact ⟨g1, hless⟩
theorem sb_step {m : Int} {s : TState} (g : SB m s) {r : TRec} (h1 : r.Time ≤ m) (h2 : 0 ≤ r.Lead ∧ r.Lead ≤ 3) : SB m (stepS s r) := by
  unfold stepS
  split
  · exact sb_apply g h1 h2 ‹_›
  · exact g
theorem At5 {m : Int} : ∀ {l : List TRec} {s : TState}, SB m s → (∀ r ∈ l, r.Time ≤ m ∧ 0 ≤ r.Lead ∧ r.Lead ≤ 3) → SB m (stFrom s l)
  | [], s, g, _ => g
  | r :: l, s, g, h => by
    show SB m (stFrom (stepS s r) l)
    exact At5 (sb_step g (h r List.mem_cons_self).1 (h r List.mem_cons_self).2) fun x hx => h x (List.mem_cons_of_mem _ hx)
theorem st_phi {l : List TRec} (hl : l.length ≤ 11) (h : ∀ r ∈ l, r.size ≤ 1000) : phi (stFrom zState l) ≤ 33044 := by
  have h2 := AC2 (m := 1000) (s := zState) (l := l) h
  have h3 : phi zState = 0 := rfl
  have h5 : l.length * (3 * (1 + 1000) + 1) ≤ 11 * 3004 := Nat.mul_le_mul hl (by decide)
  omega
end Go.M
namespace Go.Proofs.YtkegepoihkhihaaGreat
open Go Go.AV Go.M
attribute [local irreducible] OpW OpA OpS AWP FSpec ESpec GSpec OpE RetOk RetOkG RvDen Le Ev GuardIs SrcIs SrcE Int.tmod Int.tdiv IntKind.wrap bandI
theorem ofK_own (l : List TRec) (hl : l.length ≤ 60) (hr : ∀ r ∈ l, r.size ≤ 1100) : GSpec Tryz.prog 107 [AV.list 7 (l.map TRec.cs)] [] (fun _ : Value × Value × Value => True) (fun x => TState.ow (stFrom zState l) (x.1, x.2.1) ++ [.arr x.2.2 4 1 ((didFrom zState l).map fun b => [AV.bool b])]) (fun x => AV.tup [AV.agg (TState.ocs (stFrom zState l) (x.1, x.2.1)), AV.is x.2.2]) := by
 have hgs : ∀ i, SO (stFrom zState (l.take i)) := fun i => AO7 Aa6
 have hsz : ∀ i, (stFrom zState (l.take i)).size ≤ 300000 := fun i => by
  have h1 := AI6 (stFrom zState (l.take i))
  have h2 := AC2 (m := 1100) (s := zState) (l := l.take i) fun r hr2 => hr r (List.mem_of_mem_take hr2)
  have h3 : phi zState = 0 := rfl
  have h4 : (l.take i).length ≤ 60 := by rw [E4]; omega
  have h5 : (l.take i).length * (3 * (1 + 1100) + 1) ≤ 60 * 3304 := Nat.mul_le_mul h4 (by decide)
  omega
 refine I9 Tryz.func107 rfl Tryz.ntmps107 rfl ?_
 refine A3 (A2 ?_)
 refine G3 rfl rfl rfl rfl Tryz.zeroValue43 rfl ?_
 intro b2
 refine A1 rfl (B7 rfl M4) ?_
 refine A4 (A3 (A2 ?_))
 refine G3 rfl rfl rfl rfl Tryz.zeroValue43 rfl ?_
 intro b4
 refine A4 (A3 (A2 ?_))
 refine X5 4 1 rfl rfl rfl rfl M4 ?_
 intro v5
 refine A4 (A3 (A3 ?_))
 refine AWP.le (AA6 1 1 2 rfl rfl Q1) ?_
 refine A2 ?_
 refine A5 rfl ?_
 refine A1 rfl (H2 rfl I7 (A0 rfl)) ?_
 refine A1 rfl (B9 rfl B6) ?_
 refine A4 (D1 ?_)
 refine c7 141 5 ?_
 refine c7 144 3 ?_
 refine AWP.le (H4 [3, 1, 0, 0] rfl) ?_
 refine d9 [(2, _), (3, _), (4, _), (10, _), (11, _)] _ (fun (i : Nat) (y : Value × Value) (v : Value) (bs : List Bool) => i ≤ l.length ∧ bs = didFrom zState (l.take i) ∧ bs.length ≤ i) (fun (i : Nat) (y : Value × Value) (v : Value) (bs : List Bool) => [.box b4 43 (TState.ocs (stFrom zState (l.take i)) y), .arr y.1 141 5 ((stFrom zState (l.take i)).Held.map THeld.cs), .arr y.2 144 3 ((stFrom zState (l.take i)).Told.map TTold.cs), .arr v 4 1 (bs.map fun b => [AV.bool b])]) (fun (i : Nat) (y : Value × Value) (v : Value) (bs : List Bool) => [(5, AV.is v), (12, AV.int i)]) (fun (i : Nat) (y : Value × Value) (v : Value) (bs : List Bool) => l.length - i) (0) (((Value.slice none 0 0), (Value.slice none 0 0))) (v5) ([]) ?_ (S6 (by rfl) ⟨rfl, rfl, rfl, rfl, rfl, rfl, rfl, trivial⟩) ?_
 ·exact ⟨Nat.zero_le _, rfl, Nat.le_refl _⟩
 intro i y v bs hinv
 refine A3 (A2 ?_)
 refine A1 rfl (K5 rfl (A0 rfl) (A0 rfl)) ?_
 refine A4 (A3 ?_)
 refine C4 (A0 rfl) ?_ ?_
 ·intro h13
  have k13 := of_decide_eq_true h13; try simp only [A9] at k13
  have hlt : i < l.length := by omega
  obtain ⟨r, hx⟩ := get_some hlt
  have hgr := hr r (G2 hx)
  have hgi := hgs i
  have hsi := hsz i
  refine C8 (A3 (D1 (A3 (A2 ?_))))
  refine A1 rfl (J4 rfl I7 G1 (A0 rfl) (A0 rfl) hx (by first | omega | (simp only [C9, A8, szR] at *; omega))) ?_
  refine A1 rfl (L4 rfl (A0 rfl) N1 G1) ?_
  refine G3 rfl rfl rfl rfl Tryz.zeroValue104 rfl ?_
  intro b7
  refine D7 0 rfl rfl rfl (A0 rfl) (A0 rfl) (F0 _) rfl G1 rfl ?_
  refine A4 (A3 ?_)
  refine N7 (by first | (simp only [TState.ow, TState.ocs, pick, S4, S0, R7, Q4, R8, List.nil_append, S5, S1, List.append_nil, Q3, List.take_zero, Q5, List.drop_zero]; exact rfl) | exact rfl) ?_
  refine A2 ?_
  refine A1 rfl (G5 1 rfl (A0 rfl) rfl E6 C3 rfl) ?_
  refine A1 rfl (G5 0 rfl (A0 rfl) rfl N1 G1 rfl) ?_
  refine J9 [2, 2] rfl rfl rfl rfl Tryz.call164 rfl (Ax1 (stFrom zState (l.take i)) y r hgi (by omega) (by omega)) (A7 (A0 rfl) (A7 (A0 rfl) C6)) rfl ?_
  intro x19 ok19
  refine A5 rfl ?_
  refine A1 rfl (I8 rfl (A0 rfl) rfl) ?_
  refine A1 rfl (I8 rfl (A0 rfl) rfl) ?_
  refine G3 rfl rfl rfl rfl Tryz.zeroValue43 rfl ?_
  intro b8
  refine D7 0 rfl rfl rfl (A0 rfl) (A0 rfl) (F0 _) rfl C3 rfl ?_
  refine B5 rfl ?_
  refine A4 (A3 (A3 ?_))
  refine N7 (by first | (simp only [TState.ow, TState.ocs, pick, S4, S0, R7, Q4, R8, List.nil_append, S5, S1, List.append_nil, Q3, List.take_zero, Q5, List.drop_zero]; exact rfl) | exact rfl) ?_
  refine A2 ?_
  refine A5 rfl ?_
  refine A4 ?_
  refine C4 (A0 rfl) ?_ ?_
  ·intro h22
   have hstep : (applyS (stFrom zState (l.take i)) r).1 = stepS (stFrom zState (l.take i)) r := by (unfold stepS; rw [if_pos h22])
   refine N7 (by first | (simp only [TState.ow, TState.ocs, pick, S4, S0, R7, Q4, R8, List.nil_append, S5, S1, List.append_nil, Q3, List.take_zero, Q5, List.drop_zero]; exact rfl) | exact rfl) ?_
   refine A2 ?_
   refine A1 rfl (G5 0 rfl (A0 rfl) rfl E6 C3 rfl) ?_
   refine D7 6 rfl rfl rfl (A0 rfl) (A0 rfl) (F0 _) rfl C3 rfl ?_
   refine A4 ?_
   refine N7 (by first | (simp only [TState.ow, TState.ocs, pick, S4, S0, R7, Q4, R8, List.nil_append, S5, S1, List.append_nil, Q3, List.take_zero, Q5, List.drop_zero]; exact rfl) | exact rfl) ?_
   refine A2 ?_
   refine A5 rfl ?_
   refine A5 rfl ?_
   refine A1 rfl (L2 rfl V4 J1 Tryz.zeroValue4 rfl rfl rfl rfl (D3 (A0 rfl) (W7 _) I2) rfl rfl) ?_
   refine N3 (by' := 1) 7 rfl rfl rfl rfl V4 Tryz.type4 rfl rfl rfl rfl rfl rfl (A0 rfl) (A0 rfl) rfl (by first | omega | (simp only [C9, A8, szR] at *; omega)) ?_
   intro v27_1
   refine B5 rfl ?_
   refine A4 (A2 ?_)
   refine A1 rfl (G7 rfl (A0 rfl) B6 (by first | omega | (simp only [C9, A8, szR] at *; omega))) ?_
   refine A5 rfl ?_
   refine A4 ?_
   refine T8 i y v bs (i + 1) ((x19.1, x19.2)) (v27_1) (bs ++ [(applyS (stFrom zState (l.take i)) r).2]) ?_ ?_ (Le.trans (H4 [0, 0, 0, 2, 2, 0, 0, 0] rfl) (L5 4 (by first | (rw [List.map_append, w5 hx, ← hstep]; rfl) | rfl) ⟨rfl, rfl, rfl, rfl, rfl, rfl, rfl, trivial⟩))
   ·exact ⟨by omega, by rw [r6 hx, hinv.2.1], by rw [H5]; simp; omega⟩
   omega
  intro h22
  have hstep : stFrom zState (l.take i) = stepS (stFrom zState (l.take i)) r := by (conv => rhs; unfold stepS; rw [if_neg (by rw [h22]; decide)])
  refine C8 ?_
  refine N7 (by first | (simp only [TState.ow, TState.ocs, pick, S4, S0, R7, Q4, R8, List.nil_append, S5, S1, List.append_nil, Q3, List.take_zero, Q5, List.drop_zero]; exact rfl) | exact rfl) ?_
  refine A2 ?_
  refine A5 rfl ?_
  refine A5 rfl ?_
  refine A1 rfl (L2 rfl V4 J1 Tryz.zeroValue4 rfl rfl rfl rfl (D3 (A0 rfl) (W7 _) I2) rfl rfl) ?_
  refine N3 (by' := 1) 7 rfl rfl rfl rfl V4 Tryz.type4 rfl rfl rfl rfl rfl rfl (A0 rfl) (A0 rfl) rfl (by first | omega | (simp only [C9, A8, szR] at *; omega)) ?_
  intro v27_2
  refine B5 rfl ?_
  refine A4 (A2 ?_)
  refine A1 rfl (G7 rfl (A0 rfl) B6 (by first | omega | (simp only [C9, A8, szR] at *; omega))) ?_
  refine A5 rfl ?_
  refine A4 ?_
  refine T8 i y v bs (i + 1) ((y.1, y.2)) (v27_2) (bs ++ [(applyS (stFrom zState (l.take i)) r).2]) ?_ ?_ (Le.trans (H4 [0, 2, 2, 2, 2, 0, 0, 0] rfl) (L5 4 (by first | (rw [List.map_append, w5 hx, ← hstep]; rfl) | rfl) ⟨rfl, rfl, rfl, rfl, rfl, rfl, rfl, trivial⟩))
  ·exact ⟨by omega, by rw [r6 hx, hinv.2.1], by rw [H5]; simp; omega⟩
  omega
 intro h13
 have k13 := of_decide_eq_false h13; try simp only [A9] at k13
 have hge : i = l.length := by omega
 have hbs := hinv.2.1
 rw [hge, List.take_length] at hbs
 rw [hge, List.take_length, ← hbs]
 refine G9 ?_
 refine A3 ?_
 refine N7 (by first | (simp only [TState.ow, TState.ocs, pick, S4, S0, R7, Q4, R8, List.nil_append, S5, S1, List.append_nil, Q3, List.take_zero, Q5, List.drop_zero]; exact rfl) | exact rfl) ?_
 refine A2 ?_
 refine A1 rfl (G5 0 rfl (A0 rfl) rfl E6 C3 rfl) ?_
 refine A5 rfl ?_
 refine D7 4 rfl rfl rfl (A0 rfl) (A0 rfl) (F0 _) rfl C3 rfl ?_
 refine B5 rfl ?_
 refine A4 ?_
 refine C5 ?_
 exact M3 [1, 1, 1] (y.1, y.2, v) (trivial) rfl (by rfl) (T2 rfl (by decide) (F2 (M2 (ys := _) 4 rfl rfl E6 C3 rfl) (F2 (B8 rfl (by rfl)) L7)))
theorem AR1 (b : Nat) (code : List Int) (hcode : ByteL code) (c : TCur) (hp : c.p ≤ 2000000) : GSpec Tryz.prog 116 [AV.ptr b 0] [.box b 114 (curC code c)] (fun x : TCur × TRec => x.1.p ≤ c.p + 100 ∧ x.2.size ≤ 1000 ∧ 0 ≤ x.2.Lead ∧ x.2.Lead ≤ 3 ∧ 0 ≤ x.2.Time ∧ x.2.Time ≤ 100001) (fun x => [.box b 114 (curC code x.1)]) (fun x => AV.agg x.2.cs) :=
  Ap8 (fun x => (x.1, x.2.1)) (fun x => TRec.ow x.2.1 x.2.2) (fun x => [.box b 114 (curC code x.1)]) (Ax0 b code hcode c hp) (fun _ h => h) (fun x _ => l6 (TRec.lc _ _)) (fun x _ => List.perm_append_comm (l₁ := [_])) (fun _ _ => T6 0 rfl rfl Q1) (fun x _ => oc_cons ⟨rfl, rfl, AG0⟩ oc_nil)
theorem Aq5 (b : Nat) (code : List Int) (hcode : ByteL code) (c : TCur) (hp : c.p ≤ 900000) : GSpec Tryz.prog 210 [AV.ptr b 0] [.box b 114 (curC code c)] (fun x : TCur × List TRec × Value => x.1.p ≤ c.p + 1300 ∧ x.2.1.length ≤ 11 ∧ ∀ r ∈ x.2.1, r.size ≤ 1000 ∧ r.Time ≤ 33 ∧ 0 ≤ r.Lead ∧ r.Lead ≤ 3) (fun x => [.box b 114 (curC code x.1), .arr x.2.2 104 7 (x.2.1.map TRec.cs)]) (fun x => AV.is x.2.2) := by
 refine I9 Tryz.func210 rfl Tryz.ntmps210 rfl ?_
 refine A3 (A2 ?_)
 refine A1 rfl (B7 rfl M4) ?_
 refine A4 (A3 (A2 ?_))
 refine X5 104 7 rfl rfl rfl rfl M4 ?_
 intro v3
 refine A4 (A3 (A2 ?_))
 refine A1 rfl (B7 rfl B6) ?_
 refine A4 (A3 (A3 (A2 ?_)))
 refine A5 rfl ?_
 refine J9 [1] rfl rfl rfl rfl Tryz.call76 rfl (R4 _ _ hcode _ _ (by omega) (by omega)) (A7 (A0 rfl) (A7 B6 C6)) rfl ?_
 intro x9 ok9
 refine B5 rfl ?_
 refine A4 (D1 ?_)
 refine AWP.le (H4 [0, 0] rfl) ?_
 refine Ao5 [(0, _), (2, _)] _ (fun (n : Int) (cc : TCur) (l : List TRec) (v : Value) (t : Int) => (0 ≤ n ∧ n + l.length ≤ 11) ∧ cc.p + 110 * n ≤ c.p + 1220 ∧ (0 ≤ t ∧ t + 3 * n ≤ 33) ∧ ∀ r ∈ l, r.size ≤ 1000 ∧ r.Time ≤ 33 ∧ 0 ≤ r.Lead ∧ r.Lead ≤ 3) (fun (n : Int) (cc : TCur) (l : List TRec) (v : Value) (t : Int) => [.box b 114 (curC code cc), .arr v 104 7 (l.map TRec.cs)]) (fun (n : Int) (cc : TCur) (l : List TRec) (v : Value) (t : Int) => [(3, AV.is v), (4, AV.int t), (5, AV.int n)]) (fun (n : Int) (cc : TCur) (l : List TRec) (v : Value) (t : Int) => n.toNat) (x9.2) (x9.1) ([]) (v3) (0) ?_ (S6 (by rfl) ⟨rfl, rfl, rfl, rfl, rfl, trivial⟩) ?_
 ·exact ⟨⟨by omega, by simp; omega⟩, by omega, ⟨by omega, by omega⟩, fun r hr => by cases hr⟩
 intro n cc l v t hinv
 refine A3 (A3 (A2 ?_))
 refine A5 rfl ?_
 refine A1 rfl (O8 rfl (A0 rfl) B6) ?_
 refine A4 ?_
 refine C4 (A0 rfl) ?_ ?_
 ·intro h11
  have k11 := of_decide_eq_true h11; try simp only [A9] at k11
  refine C8 (A3 (D1 (A3 (A2 ?_))))
  refine A5 rfl ?_
  refine J9 [0] rfl rfl rfl rfl Tryz.call116 rfl (AR1 _ _ hcode _ (by omega)) (A7 (A0 rfl) C6) rfl ?_
  intro x15 ok15
  refine G3 rfl rfl rfl rfl Tryz.zeroValue104 rfl ?_
  intro b6
  refine D7 0 rfl rfl rfl (A0 rfl) (A0 rfl) (F0 _) rfl G1 rfl ?_
  refine A4 (A3 (A2 ?_))
  refine A5 rfl ?_
  refine A5 rfl ?_
  refine J9 [1] rfl rfl rfl rfl Tryz.call76 rfl (R4 _ _ hcode _ _ (by omega) (by omega)) (A7 (A0 rfl) (A7 B6 C6)) rfl ?_
  intro x18 ok18
  refine A1 rfl (G7 rfl B6 (A0 rfl) (by first | omega | (simp only [C9, A8, szR] at *; omega))) ?_
  refine A1 rfl (G7 rfl (A0 rfl) (A0 rfl) (by first | omega | (simp only [C9, A8, szR] at *; omega))) ?_
  refine B5 rfl ?_
  refine A4 (A3 (A3 (A2 ?_)))
  refine A1 rfl (B1 2 rfl B3 rfl B4 (A0 rfl) rfl) ?_
  refine A1 rfl (B0 1 rfl (A0 rfl) rfl C2 rfl) ?_
  refine A1 rfl (O8 rfl (A0 rfl) B6) ?_
  refine A4 ?_
  refine C4 (A0 rfl) ?_ ?_
  ·intro h23
   have k23 := of_decide_eq_true h23; try simp only [A9] at k23
   refine A2 ?_
   refine A5 rfl ?_
   refine A1 rfl (B1 2 rfl B3 rfl B4 (A0 rfl) rfl) ?_
   refine K3 1 rfl rfl rfl (A0 rfl) (A0 rfl) (K4 _ _) rfl B4 rfl ?_
   refine A4 (A3 (A3 (A2 ?_)))
   refine A1 rfl (B1 0 rfl B3 rfl B4 (A0 rfl) rfl) ?_
   refine A1 rfl (B0 1 rfl (A0 rfl) rfl C2 rfl) ?_
   refine A1 rfl (O7 rfl (A0 rfl) B6) ?_
   refine A5 rfl ?_
   refine H8 rfl (fun hc => B1 0 rfl B3 rfl B4 (A0 rfl) rfl) ?_
   refine H8 rfl (fun hc => B0 1 rfl (A6 rfl hc) rfl C2 rfl) ?_
   refine H8 rfl (fun hc => O7 rfl (A6 rfl hc) B6) ?_
   refine A1 rfl (R5 rfl (A0 rfl) (F9 rfl)) ?_
   refine A5 rfl ?_
   refine D0 rfl (fun hc => B9 rfl (A0 rfl)) ?_
   refine D0 rfl (fun hc => V8 2 rfl I7 (A6 rfl hc) rfl) ?_
   refine D0 rfl (fun hc => O8 rfl (A6 rfl hc) B6) ?_
   refine A1 rfl (I1 rfl (A0 rfl) (F9 rfl)) ?_
   refine A4 ?_
   refine C4 (A0 rfl) ?_ ?_
   ·intro h38
    have hll : 0 < l.length := by (cases hm : l with | nil => (rw [hm] at h38; simp at h38) | cons y q => simp)
    refine A3 (A2 ?_)
    refine A5 rfl ?_
    refine A5 rfl ?_
    refine A5 rfl ?_
    refine A1 rfl (V8 2 rfl I7 (A0 rfl) rfl) ?_
    refine J9 [0] rfl rfl rfl rfl Tryz.call76 rfl (R4 _ _ hcode _ _ (by simp only [A9]; omega) (by omega)) (A7 (A0 rfl) (A7 (A0 rfl) C6)) rfl ?_
    intro x43 ok43
    have hix : x43.2.toNat < l.length := by (have h9 := ok43.2; simp only [A9] at h9; omega)
    obtain ⟨z, hz⟩ := get_some hix
    have hrow : (l.map TRec.cs)[x43.2.toNat]? = some z.cs := by (rw [List.getElem?_map, hz]; rfl)
    refine A1 rfl (U2 2 rfl I7 G1 (A0 rfl) rfl (A0 rfl) (by omega) (by first | omega | (simp only [A9]; omega))) ?_
    refine A1 rfl (f9 2 rfl (A0 rfl) rfl N1 G1 hrow (by decide)) ?_
    refine G3 rfl rfl rfl rfl Tryz.zeroValue104 rfl ?_
    intro b7
    refine D7 0 rfl rfl rfl (A0 rfl) (A0 rfl) (F0 _) rfl G1 rfl ?_
    refine A4 (A3 (A2 ?_))
    refine A1 rfl (B1 0 rfl B3 rfl B4 (A0 rfl) rfl) ?_
    refine A1 rfl (B0 0 rfl (A0 rfl) rfl C2 rfl) ?_
    refine A1 rfl (O7 rfl (A0 rfl) B6) ?_
    refine A4 ?_
    refine C4 (A0 rfl) ?_ ?_
    ·intro h48
     have k48 := O1 h48; try simp only [A9] at k48
     refine A2 ?_
     refine A1 rfl (B1 1 rfl B3 rfl B4 (A0 rfl) rfl) ?_
     refine A1 rfl (B0 0 rfl (A0 rfl) rfl C2 rfl) ?_
     refine A1 rfl (B1 1 rfl B3 rfl B4 (A0 rfl) rfl) ?_
     refine K3 2 rfl rfl rfl (A0 rfl) (A0 rfl) (K4 _ _) rfl B4 rfl ?_
     refine A4 (A2 ?_)
     refine A5 rfl ?_
     refine A1 rfl (G5 2 rfl (A0 rfl) rfl N1 G1 rfl) ?_
     refine A1 rfl (L2 rfl I7 G1 Tryz.zeroValue104 rfl rfl rfl rfl (D3 (A0 rfl) (F0 _) I2) rfl rfl) ?_
     refine N3 (by' := 88) 3 rfl rfl rfl rfl I7 Tryz.type104 rfl rfl rfl rfl rfl rfl (A0 rfl) (A0 rfl) rfl (by first | omega | (simp only [C9, A8, szR] at *; omega)) ?_
     intro v55_1
     refine B5 rfl ?_
     refine A4 (A2 ?_)
     refine A5 rfl ?_
     refine A1 rfl (P9 rfl (A0 rfl) B6 (by first | omega | (simp only [C9, A8, szR] at *; omega))) ?_
     refine B5 rfl ?_
     refine A4 ?_
     refine m2 n cc l v t (n - 1) (x43.1) (l ++ [⟨x15.2.Kind, z.Txn, t + (1 + x18.2), x15.2.Lead, x15.2.Reads, x15.2.Writes, x15.2.Yes⟩]) (v55_1) (t + (1 + x18.2)) ?_ ?_ (Le.trans (H4 [0, 1, 0, 0] rfl) (L5 2 (by (rw [List.map_append]; rfl)) ⟨rfl, rfl, rfl, rfl, rfl, trivial⟩))
     ·exact ⟨⟨by omega, by rw [H5]; simp; omega⟩, by omega, ⟨by omega, by omega⟩, fun q hq => by (rcases List.mem_append.1 hq with hq | hq; (exact hinv.2.2.2 q hq); (rw [List.mem_singleton.1 hq]; exact ⟨ok15.2.1, by first | (dsimp only; omega) | omega, ok15.2.2.1, ok15.2.2.2.1⟩))⟩
     omega
    intro h48
    have k48 := O0 h48; try simp only [A9] at k48
    refine C8 (A2 ?_)
    refine A5 rfl ?_
    refine A1 rfl (G5 2 rfl (A0 rfl) rfl N1 G1 rfl) ?_
    refine A1 rfl (L2 rfl I7 G1 Tryz.zeroValue104 rfl rfl rfl rfl (D3 (A0 rfl) (F0 _) I2) rfl rfl) ?_
    refine N3 (by' := 88) 3 rfl rfl rfl rfl I7 Tryz.type104 rfl rfl rfl rfl rfl rfl (A0 rfl) (A0 rfl) rfl (by first | omega | (simp only [C9, A8, szR] at *; omega)) ?_
    intro v55_2
    refine B5 rfl ?_
    refine A4 (A2 ?_)
    refine A5 rfl ?_
    refine A1 rfl (P9 rfl (A0 rfl) B6 (by first | omega | (simp only [C9, A8, szR] at *; omega))) ?_
    refine B5 rfl ?_
    refine A4 ?_
    refine m2 n cc l v t (n - 1) (x43.1) (l ++ [⟨x15.2.Kind, x15.2.Txn, t + (1 + x18.2), x15.2.Lead, x15.2.Reads, x15.2.Writes, x15.2.Yes⟩]) (v55_2) (t + (1 + x18.2)) ?_ ?_ (Le.trans (H4 [0, 1, 0, 0] rfl) (L5 2 (by (rw [List.map_append]; rfl)) ⟨rfl, rfl, rfl, rfl, rfl, trivial⟩))
    ·exact ⟨⟨by omega, by rw [H5]; simp; omega⟩, by omega, ⟨by omega, by omega⟩, fun q hq => by (rcases List.mem_append.1 hq with hq | hq; (exact hinv.2.2.2 q hq); (rw [List.mem_singleton.1 hq]; exact ⟨ok15.2.1, by first | (dsimp only; omega) | omega, ok15.2.2.1, ok15.2.2.2.1⟩))⟩
    omega
   intro h38
   refine C8 (A2 ?_)
   refine A5 rfl ?_
   refine A1 rfl (G5 1 rfl (A0 rfl) rfl N1 G1 rfl) ?_
   refine A1 rfl (L2 rfl I7 G1 Tryz.zeroValue104 rfl rfl rfl rfl (D3 (A0 rfl) (F0 _) I2) rfl rfl) ?_
   refine N3 (by' := 88) 2 rfl rfl rfl rfl I7 Tryz.type104 rfl rfl rfl rfl rfl rfl (A0 rfl) (A0 rfl) rfl (by first | omega | (simp only [C9, A8, szR] at *; omega)) ?_
   intro v55_3
   refine B5 rfl ?_
   refine A4 (A2 ?_)
   refine A5 rfl ?_
   refine A1 rfl (P9 rfl (A0 rfl) B6 (by first | omega | (simp only [C9, A8, szR] at *; omega))) ?_
   refine B5 rfl ?_
   refine A4 ?_
   refine m2 n cc l v t (n - 1) (x18.1) (l ++ [⟨x15.2.Kind, x15.2.Txn, t + (1 + x18.2), x15.2.Lead, x15.2.Reads, x15.2.Writes, x15.2.Yes⟩]) (v55_3) (t + (1 + x18.2)) ?_ ?_ (Le.trans (H4 [1, 0, 0] rfl) (L5 1 (by (rw [List.map_append]; rfl)) ⟨rfl, rfl, rfl, rfl, rfl, trivial⟩))
   ·exact ⟨⟨by omega, by rw [H5]; simp; omega⟩, by omega, ⟨by omega, by omega⟩, fun q hq => by (rcases List.mem_append.1 hq with hq | hq; (exact hinv.2.2.2 q hq); (rw [List.mem_singleton.1 hq]; exact ⟨ok15.2.1, by first | (dsimp only; omega) | omega, ok15.2.2.1, ok15.2.2.2.1⟩))⟩
   omega
  intro h23
  have k23 := of_decide_eq_false h23; try simp only [A9] at k23
  refine C8 (A3 (A3 (A2 ?_)))
  refine A1 rfl (B1 0 rfl B3 rfl B4 (A0 rfl) rfl) ?_
  refine A1 rfl (B0 1 rfl (A0 rfl) rfl C2 rfl) ?_
  refine A1 rfl (O7 rfl (A0 rfl) B6) ?_
  refine A5 rfl ?_
  refine H8 rfl (fun hc => B1 0 rfl B3 rfl B4 (A0 rfl) rfl) ?_
  refine H8 rfl (fun hc => B0 1 rfl (A6 rfl hc) rfl C2 rfl) ?_
  refine H8 rfl (fun hc => O7 rfl (A6 rfl hc) B6) ?_
  refine A1 rfl (R5 rfl (A0 rfl) (F9 rfl)) ?_
  refine A5 rfl ?_
  refine D0 rfl (fun hc => B9 rfl (A0 rfl)) ?_
  refine D0 rfl (fun hc => V8 2 rfl I7 (A6 rfl hc) rfl) ?_
  refine D0 rfl (fun hc => O8 rfl (A6 rfl hc) B6) ?_
  refine A1 rfl (I1 rfl (A0 rfl) (F9 rfl)) ?_
  refine A4 ?_
  refine C4 (A0 rfl) ?_ ?_
  ·intro h38
   have hll : 0 < l.length := by (cases hm : l with | nil => (rw [hm] at h38; simp at h38) | cons y q => simp)
   refine A3 (A2 ?_)
   refine A5 rfl ?_
   refine A5 rfl ?_
   refine A5 rfl ?_
   refine A1 rfl (V8 2 rfl I7 (A0 rfl) rfl) ?_
   refine J9 [0] rfl rfl rfl rfl Tryz.call76 rfl (R4 _ _ hcode _ _ (by simp only [A9]; omega) (by omega)) (A7 (A0 rfl) (A7 (A0 rfl) C6)) rfl ?_
   intro x43 ok43
   have hix : x43.2.toNat < l.length := by (have h9 := ok43.2; simp only [A9] at h9; omega)
   obtain ⟨z, hz⟩ := get_some hix
   have hrow : (l.map TRec.cs)[x43.2.toNat]? = some z.cs := by (rw [List.getElem?_map, hz]; rfl)
   refine A1 rfl (U2 2 rfl I7 G1 (A0 rfl) rfl (A0 rfl) (by omega) (by first | omega | (simp only [A9]; omega))) ?_
   refine A1 rfl (f9 2 rfl (A0 rfl) rfl N1 G1 hrow (by decide)) ?_
   refine G3 rfl rfl rfl rfl Tryz.zeroValue104 rfl ?_
   intro b7
   refine D7 0 rfl rfl rfl (A0 rfl) (A0 rfl) (F0 _) rfl G1 rfl ?_
   refine A4 (A3 (A2 ?_))
   refine A1 rfl (B1 0 rfl B3 rfl B4 (A0 rfl) rfl) ?_
   refine A1 rfl (B0 0 rfl (A0 rfl) rfl C2 rfl) ?_
   refine A1 rfl (O7 rfl (A0 rfl) B6) ?_
   refine A4 ?_
   refine C4 (A0 rfl) ?_ ?_
   ·intro h48
    have k48 := O1 h48; try simp only [A9] at k48
    refine A2 ?_
    refine A1 rfl (B1 1 rfl B3 rfl B4 (A0 rfl) rfl) ?_
    refine A1 rfl (B0 0 rfl (A0 rfl) rfl C2 rfl) ?_
    refine A1 rfl (B1 1 rfl B3 rfl B4 (A0 rfl) rfl) ?_
    refine K3 2 rfl rfl rfl (A0 rfl) (A0 rfl) (K4 _ _) rfl B4 rfl ?_
    refine A4 (A2 ?_)
    refine A5 rfl ?_
    refine A1 rfl (G5 2 rfl (A0 rfl) rfl N1 G1 rfl) ?_
    refine A1 rfl (L2 rfl I7 G1 Tryz.zeroValue104 rfl rfl rfl rfl (D3 (A0 rfl) (F0 _) I2) rfl rfl) ?_
    refine N3 (by' := 88) 3 rfl rfl rfl rfl I7 Tryz.type104 rfl rfl rfl rfl rfl rfl (A0 rfl) (A0 rfl) rfl (by first | omega | (simp only [C9, A8, szR] at *; omega)) ?_
    intro v55_4
    refine B5 rfl ?_
    refine A4 (A2 ?_)
    refine A5 rfl ?_
    refine A1 rfl (P9 rfl (A0 rfl) B6 (by first | omega | (simp only [C9, A8, szR] at *; omega))) ?_
    refine B5 rfl ?_
    refine A4 ?_
    refine m2 n cc l v t (n - 1) (x43.1) (l ++ [⟨x15.2.Kind, z.Txn, x15.2.Time, x15.2.Lead, x15.2.Reads, x15.2.Writes, x15.2.Yes⟩]) (v55_4) (t + (1 + x18.2)) ?_ ?_ (Le.trans (H4 [0, 1, 0, 0] rfl) (L5 2 (by (rw [List.map_append]; rfl)) ⟨rfl, rfl, rfl, rfl, rfl, trivial⟩))
    ·exact ⟨⟨by omega, by rw [H5]; simp; omega⟩, by omega, ⟨by omega, by omega⟩, fun q hq => by (rcases List.mem_append.1 hq with hq | hq; (exact hinv.2.2.2 q hq); (rw [List.mem_singleton.1 hq]; exact ⟨ok15.2.1, by first | (dsimp only; omega) | omega, ok15.2.2.1, ok15.2.2.2.1⟩))⟩
    omega
   intro h48
   have k48 := O0 h48; try simp only [A9] at k48
   refine C8 (A2 ?_)
   refine A5 rfl ?_
   refine A1 rfl (G5 2 rfl (A0 rfl) rfl N1 G1 rfl) ?_
   refine A1 rfl (L2 rfl I7 G1 Tryz.zeroValue104 rfl rfl rfl rfl (D3 (A0 rfl) (F0 _) I2) rfl rfl) ?_
   refine N3 (by' := 88) 3 rfl rfl rfl rfl I7 Tryz.type104 rfl rfl rfl rfl rfl rfl (A0 rfl) (A0 rfl) rfl (by first | omega | (simp only [C9, A8, szR] at *; omega)) ?_
   intro v55_5
   refine B5 rfl ?_
   refine A4 (A2 ?_)
   refine A5 rfl ?_
   refine A1 rfl (P9 rfl (A0 rfl) B6 (by first | omega | (simp only [C9, A8, szR] at *; omega))) ?_
   refine B5 rfl ?_
   refine A4 ?_
   refine m2 n cc l v t (n - 1) (x43.1) (l ++ [⟨x15.2.Kind, x15.2.Txn, x15.2.Time, x15.2.Lead, x15.2.Reads, x15.2.Writes, x15.2.Yes⟩]) (v55_5) (t + (1 + x18.2)) ?_ ?_ (Le.trans (H4 [0, 1, 0, 0] rfl) (L5 2 (by (rw [List.map_append]; rfl)) ⟨rfl, rfl, rfl, rfl, rfl, trivial⟩))
   ·exact ⟨⟨by omega, by rw [H5]; simp; omega⟩, by omega, ⟨by omega, by omega⟩, fun q hq => by (rcases List.mem_append.1 hq with hq | hq; (exact hinv.2.2.2 q hq); (rw [List.mem_singleton.1 hq]; exact ⟨ok15.2.1, by first | (dsimp only; omega) | omega, ok15.2.2.1, ok15.2.2.2.1⟩))⟩
   omega
  intro h38
  refine C8 (A2 ?_)
  refine A5 rfl ?_
  refine A1 rfl (G5 1 rfl (A0 rfl) rfl N1 G1 rfl) ?_
  refine A1 rfl (L2 rfl I7 G1 Tryz.zeroValue104 rfl rfl rfl rfl (D3 (A0 rfl) (F0 _) I2) rfl rfl) ?_
  refine N3 (by' := 88) 2 rfl rfl rfl rfl I7 Tryz.type104 rfl rfl rfl rfl rfl rfl (A0 rfl) (A0 rfl) rfl (by first | omega | (simp only [C9, A8, szR] at *; omega)) ?_
  intro v55_6
  refine B5 rfl ?_
  refine A4 (A2 ?_)
  refine A5 rfl ?_
  refine A1 rfl (P9 rfl (A0 rfl) B6 (by first | omega | (simp only [C9, A8, szR] at *; omega))) ?_
  refine B5 rfl ?_
  refine A4 ?_
  refine m2 n cc l v t (n - 1) (x18.1) (l ++ [⟨x15.2.Kind, x15.2.Txn, x15.2.Time, x15.2.Lead, x15.2.Reads, x15.2.Writes, x15.2.Yes⟩]) (v55_6) (t + (1 + x18.2)) ?_ ?_ (Le.trans (H4 [1, 0, 0] rfl) (L5 1 (by (rw [List.map_append]; rfl)) ⟨rfl, rfl, rfl, rfl, rfl, trivial⟩))
  ·exact ⟨⟨by omega, by rw [H5]; simp; omega⟩, by omega, ⟨by omega, by omega⟩, fun q hq => by (rcases List.mem_append.1 hq with hq | hq; (exact hinv.2.2.2 q hq); (rw [List.mem_singleton.1 hq]; exact ⟨ok15.2.1, by first | (dsimp only; omega) | omega, ok15.2.2.1, ok15.2.2.2.1⟩))⟩
  omega
 intro h11
 have k11 := of_decide_eq_false h11; try simp only [A9] at k11
 refine G9 ?_
 refine A3 (A2 ?_)
 refine A5 rfl ?_
 refine B5 rfl ?_
 refine A4 ?_
 refine C5 ?_
 (refine M3 [0, 0] ((cc, l, v)) ?_ rfl (by first | (dsimp only; rfl) | rfl) (P7 rfl (B8 rfl (by rfl))); exact ⟨show cc.p ≤ _ by omega, show l.length ≤ 11 by omega, hinv.2.2.2⟩)
theorem An5 (b : Nat) (code : List Int) (hcode : ByteL code) (c : TCur) (hp : c.p ≤ 900000) : GSpec Tryz.prog 168 [AV.ptr b 0] [.box b 114 (curC code c)] (fun x : TCur × TState × Value × Value => x.1.p ≤ c.p + 1300 ∧ SO x.2.1 ∧ SB 33 x.2.1 ∧ x.2.1.size ≤ 33044) (fun x => .box b 114 (curC code x.1) :: TState.ow x.2.1 x.2.2) (fun x => AV.agg (TState.ocs x.2.1 x.2.2)) := by
 refine I9 Tryz.func168 rfl Tryz.ntmps168 rfl ?_
 refine A3 (A2 ?_)
 refine G3 rfl rfl rfl rfl Tryz.zeroValue43 rfl ?_
 intro b2
 refine A4 (A3 (A2 ?_))
 refine A5 rfl ?_
 refine J9 [1] rfl rfl rfl rfl Tryz.call210 rfl (Aq5 _ _ hcode _ (by omega)) (A7 (A0 rfl) C6) rfl ?_
 intro x7 ok7
 refine u7 (Z3 [1] 7 rfl rfl (N8 (G2 (i := 0) rfl) J7) (T6 0 rfl rfl Q1)) ?_
 refine J9 [] rfl rfl rfl rfl Tryz.call107 rfl (ofK_own x7.2.1 (by omega) (fun r hr => by have := (ok7.2.2 r hr).1; omega)) (A7 (A0 rfl) C6) rfl ?_
 intro x8 ok8
 refine A5 rfl ?_
 refine A1 rfl (I8 rfl (A0 rfl) rfl) ?_
 refine A1 rfl (I8 rfl (A0 rfl) rfl) ?_
 refine G3 rfl rfl rfl rfl Tryz.zeroValue43 rfl ?_
 intro b3
 refine D7 0 rfl rfl rfl (A0 rfl) (A0 rfl) (F0 _) rfl C3 rfl ?_
 refine B5 rfl ?_
 refine A4 (A3 ?_)
 refine N7 (by first | (simp only [TState.ow, TState.ocs, pick, S4, S0, R7, Q4, R8, List.nil_append, S5, S1, List.append_nil, Q3, List.take_zero, Q5, List.drop_zero]; exact rfl) | exact rfl) ?_
 refine A2 ?_
 refine A1 rfl (G5 0 rfl (A0 rfl) rfl E6 C3 rfl) ?_
 refine D7 5 rfl rfl rfl (A0 rfl) (A0 rfl) (F0 _) rfl C3 rfl ?_
 refine A4 ?_
 refine C5 ?_
 (refine M3 [4, 1, 1] ((x7.1, stFrom zState x7.2.1, x8.1, x8.2.1)) ?_ rfl (by first | (dsimp only; rfl) | rfl) (P7 rfl (M2 (ys := _) 5 rfl rfl E6 C3 rfl)); exact ⟨ok7.1, AO7 Aa6, At5 ⟨⟨by decide, by decide⟩, fun h hm => by cases hm⟩ (fun r hr => ⟨(ok7.2.2 r hr).2.1, (ok7.2.2 r hr).2.2⟩), Nat.le_trans (AI6 _) (st_phi ok7.2.1 fun r hr => (ok7.2.2 r hr).1)⟩)
end Go.Proofs.YtkegepoihkhihaaGreat

namespace Go.Proofs.YtkegepoihkhihaaGreat
open Go Go.AV Go.M
attribute [local irreducible] OpW OpA OpS AWP FSpec ESpec GSpec OpE RetOk RetOkG RvDen Le Ev GuardIs SrcIs
end Go.Proofs.YtkegepoihkhihaaGreat

namespace Go.Proofs.YtkegepoihkhihaaGreat
open Go Go.AV Go.M
attribute [local irreducible] OpW OpA OpS AWP FSpec ESpec GSpec OpE RetOk RetOkG RvDen Le Ev GuardIs SrcIs
end Go.Proofs.YtkegepoihkhihaaGreat

namespace Go.Proofs.YtkegepoihkhihaaGreat
open Go Go.AV Go.M
attribute [local irreducible] OpW OpA OpS AWP FSpec ESpec GSpec OpE RetOk RetOkG RvDen Le Ev GuardIs SrcIs Int.tmod IntKind.wrap bandI
end Go.Proofs.YtkegepoihkhihaaGreat
