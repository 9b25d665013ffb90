/- Texts of the claim, part 5. -/
import Derived.Test.YtkegepoihkhihaaGreatZRebuild4

set_option linter.unusedVariables false
set_option linter.unusedSimpArgs false
set_option maxRecDepth 100000
set_option maxHeartbeats 4000000
namespace Go.Proofs.YtkegepoihkhihaaGreat
open Go Go.AV Go.M
attribute [local irreducible] OpW OpA OpS AWP FSpec ESpec GSpec OpE RetOk RetOkG RvDen Le Ev GuardIs SrcIs
theorem BA6 (l : List TCell) (w : List TWrite) (t : Int) (ho : CellsOk l) (hs : sizeL TCell.size l ≤ 1048576) (hw : sizeL TWrite.size w ≤ 1048576) (ht1 : 1 ≤ t) : GSpec Tryz.prog 204 [AV.list 2 (l.map TCell.cs), AV.list 3 (w.map TWrite.cs), AV.int t] [] (fun x : Value × List Value => x.2.length = (putP l w t).1.length) (fun x => .arr x.1 125 2 (nrows TCell.ocs (putP l w t).1 x.2) :: nin TCell.ow (putP l w t).1 x.2) (fun x => AV.tup [AV.is x.1, AV.bool (putP l w t).2]) := by
 have hwl : w.length ≤ 1048576 := Nat.le_trans O2 hw
 refine I9 Tryz.func204 rfl Tryz.ntmps204 rfl ?_
 refine A3 (A2 ?_)
 refine A1 rfl (B7 rfl M4) ?_
 refine A1 rfl (B7 rfl F8) ?_
 refine A4 (A3 (A2 ?_))
 refine A5 rfl ?_
 refine AL5 [] 0 1 ([]) ([]) (fun zz => nin TCell.ow l zz.2) rfl rfl rfl rfl Tryz.call224 rfl rfl (show List.Perm ([]) (([]) ++ ([])) from List.Perm.refl _) (Ae8 l (by omega)) (A7 (A0 rfl) C6) (fun a => AS9) ?_
 intro x15 ok15
 refine B5 rfl ?_
 refine A4 (A3 (A3 (A2 ?_)))
 refine A5 rfl ?_
 refine A1 rfl (H2 rfl G0 (A0 rfl)) ?_
 refine A1 rfl (B9 rfl B6) ?_
 refine A4 (D1 ?_)
 refine d9 [(2, _), (16, _), (17, _)] [] (fun (i : Nat) (v : Value) (q : List TCell) (xs : List Value) => i ≤ w.length ∧ xs.length = q.length ∧ CellsOk q ∧ sizeL TCell.size q ≤ 1048576 + 2 * sizeL TWrite.size (w.take i) ∧ putAll l w t = putAll q (w.drop i) t) (fun (i : Nat) (v : Value) (q : List TCell) (xs : List Value) => [.arr v 125 2 (nrows TCell.ocs q xs)] ++ (nin TCell.ow q xs)) (fun (i : Nat) (v : Value) (q : List TCell) (xs : List Value) => [(8, AV.is v), (18, AV.int i)]) (fun (i : Nat) (v : Value) (q : List TCell) (xs : List Value) => w.length - i) (0) (x15.1) (l) (x15.2) ?_ (S6 (by rw [List.append_nil]; rfl) ⟨rfl, rfl, rfl, rfl, rfl, trivial⟩) ?_
 ·exact ⟨Nat.zero_le _, ok15, ho, by omega, rfl⟩
 intro i v q xs hinv
 have hlen := hinv.2.1
 have hinvo := hinv
 have hrl : (nrows TCell.ocs q xs).length = q.length := Z8 hlen
 refine N7 (List.append_nil _) ?_
 refine A3 (A2 ?_)
 refine A1 rfl (K5 rfl (A0 rfl) (A0 rfl)) ?_
 refine A4 (A3 ?_)
 refine C4 (A0 rfl) ?_ ?_
 ·intro h19
  have k19 := of_decide_eq_true h19; try simp only [A9] at k19
  have hlt : i < w.length := by omega
  obtain ⟨x, hx⟩ := get_some hlt
  have htk := r5 (f := TWrite.size) (l := w) i
  have hso : sizeL TCell.size q ≤ 4194304 := by omega
  have hql : q.length ≤ 4194304 := Nat.le_trans O2 hso
  refine C8 (A3 (D1 (A3 (A2 ?_))))
  refine A1 rfl (J4 rfl G0 H6 (A0 rfl) (A0 rfl) hx (by first | omega | (simp only [C9, A8, szR] at *; omega))) ?_
  refine A1 rfl (L4 rfl (A0 rfl) T9 H6) ?_
  refine G3 rfl rfl rfl rfl Tryz.zeroValue101 rfl ?_
  intro b10
  refine D7 0 rfl rfl rfl (A0 rfl) (A0 rfl) (F0 _) rfl H6 rfl ?_
  refine A4 (A3 (A2 ?_))
  refine A5 rfl ?_
  refine A1 rfl (B1 1 rfl H0 rfl E5 (A0 rfl) rfl) ?_
  refine A1 rfl (B0 0 rfl (A0 rfl) rfl F7 rfl) ?_
  refine A1 rfl (B1 2 rfl H0 rfl J1 (A0 rfl) rfl) ?_
  refine A1 rfl (B0 0 rfl (A0 rfl) rfl K9 rfl) ?_
  refine A1 rfl (P0 (places := #[(0, 1), (1, 1), (2, 1)]) rfl J8 Tryz.zeroValue127 (fun w => by kernel_rfl) rfl (D3 (A0 rfl) (K4 _ _) (D3 (A0 rfl) (O5 _) (D3 (A0 rfl) (W7 _) I2))) rfl) ?_
  refine G3 rfl rfl rfl rfl Tryz.zeroValue127 rfl ?_
  intro b11
  refine D7 0 rfl rfl rfl (A0 rfl) (A0 rfl) (F0 _) rfl L1 rfl ?_
  refine A4 (A3 (A2 ?_))
  refine A5 rfl ?_
  refine A1 rfl (V8 2 rfl C7 (A0 rfl) rfl) ?_
  refine B5 rfl ?_
  refine A4 (A3 (D1 ?_))
  refine J6 [(2, _), (8, _), (10, _), (11, _), (16, _), (17, _), (18, _), (19, _), (20, _), (21, _), (22, _), (23, _), (24, _), (25, _), (26, _), (27, _), (28, _), (29, _)] _ (fun (j : Nat) => j ≤ q.length ∧ ∀ (a : Nat) (c : TCell), j ≤ a → q[a]? = some c → Op.bytesLess x.Key c.Key = true) (fun (j : Nat) => []) (fun (j : Nat) => [(12, AV.int j)]) (fun (j : Nat) => j) (q.length) ?_ (K0 ⟨congrArg (fun z : Nat => some (AV.int z)) hrl, rfl, rfl, rfl, rfl, rfl, rfl, rfl, rfl, rfl, rfl, rfl, rfl, rfl, rfl, rfl, rfl, rfl, rfl, trivial⟩) ?_
  ·exact ⟨Nat.le_refl _, fun a c ha hc => by have := (List.getElem?_eq_some_iff.1 hc).1; omega⟩
  intro j hinv
  obtain ⟨c, hc0⟩ := AB1 q (j - 1)
  obtain ⟨y, hy0⟩ : ∃ y, j - 1 < xs.length → xs[j - 1]? = some y := ⟨xs[j - 1]?.getD (.int .i64 0), fun h => by rw [List.getElem?_eq_getElem h]; rfl⟩
  have hj1 : 0 < j → ((j : Int) - 1).toNat = j - 1 := fun _ => by omega
  have hrow0 : 0 < j → (nrows TCell.ocs q xs)[((j : Int) - 1).toNat]? = some (TCell.ocs c y) := fun h => by rw [hj1 h]; exact Ad2 (hc0 (by omega)) (hy0 (by omega))
  refine A3 (A3 ?_)
  refine J5 (by kernel_rfl) (by kernel_rfl) rfl ?_
  refine B2 rfl rfl (B9 rfl (A0 rfl)) ?_
  refine B2 rfl rfl (O8 rfl (A0 rfl) B6) ?_
  refine B2 rfl rfl (B9 rfl (A0 rfl)) ?_
  refine D2 rfl (H1 rfl rfl rfl) (fun hc => B9 rfl (A0 rfl)) ?_
  refine D2 rfl (H1 rfl rfl rfl) (fun hc => B9 rfl (A0 rfl)) ?_
  refine D2 rfl (H1 rfl rfl rfl) (fun hc => P9 rfl (A6 rfl hc) B6 (by first | omega | ((try simp only [C9, A8, szR] at *); omega) | (have hc2 := hc; simp only [P4, beq_iff_eq, bne_iff_ne, A9, E4] at hc2; omega))) ?_
  refine D2 rfl (H1 rfl rfl rfl) (fun hc => U2 2 rfl C7 E2 (A6 rfl hc) rfl (A6 rfl hc) (by first | omega | ((try simp only [C9, A8, szR] at *); omega) | (have hc2 := hc; simp only [P4, beq_iff_eq, bne_iff_ne, A9, E4] at hc2; omega)) (by first | omega | ((try simp only [C9, A8, szR] at *); omega) | (have hc2 := hc; simp only [P4, beq_iff_eq, bne_iff_ne, A9, E4] at hc2; omega))) ?_
  refine D2 rfl (H1 rfl rfl rfl) (fun hc => l7 2 rfl F4 rfl E5 (A6 rfl hc) rfl rfl (hrow0 (by first | omega | ((try simp only [C9, A8, szR] at *); omega) | (have hc2 := hc; simp only [P4, beq_iff_eq, bne_iff_ne, A9, E4] at hc2; omega)))) ?_
  refine D2 rfl (H1 rfl rfl rfl) (fun hc => s5 2 rfl (A6 rfl hc) rfl F7 (hrow0 (by first | omega | ((try simp only [C9, A8, szR] at *); omega) | (have hc2 := hc; simp only [P4, beq_iff_eq, bne_iff_ne, A9, E4] at hc2; omega))) rfl) ?_
  refine D2 rfl (H1 rfl rfl rfl) (fun hc => B1 0 rfl H0 rfl E5 (A0 rfl) rfl) ?_
  refine D2 rfl (H1 rfl rfl rfl) (fun hc => B0 1 rfl (A6 rfl hc) rfl F7 rfl) ?_
  refine D2 rfl (H1 rfl rfl rfl) (fun hc => Aj4 rfl (A6 rfl hc) (A6 rfl hc)) ?_
  refine B2 rfl rfl (I1 rfl (A0 rfl) (F9 rfl)) ?_
  refine P2 ?_
  refine C4 (A0 rfl) ?_ ?_
  ·intro h42
   have hgt : 0 < j ∧ Op.bytesLess x.Key c.Key = true := by rw [bytesLess_tri]; simpa using h42
   refine C8 (D1 (A2 ?_))
   refine A5 rfl ?_
   refine A1 rfl (P9 rfl (A0 rfl) B6 (by first | omega | (simp only [C9, A8, szR] at *; omega))) ?_
   refine B5 rfl ?_
   refine A4 ?_
   refine k0 ?_
   refine L9 j (j - 1) ?_ ?_ (K0 ⟨congrArg (fun z : Int => some (AV.int z)) (by omega), rfl, rfl, rfl, rfl, rfl, rfl, rfl, rfl, rfl, rfl, rfl, rfl, rfl, rfl, rfl, rfl, rfl, rfl, trivial⟩)
   ·exact ⟨by omega, fun a c' ha hc' => if h9 : j ≤ a then hinv.2 a c' h9 hc' else (by have e : a = j - 1 := (by omega); subst e; rw [hc0 (by omega)] at hc'; injection hc' with hc'; subst hc'; exact hgt.2)⟩
   omega
  intro h42
  have hng : 0 < j → Op.bytesLess x.Key c.Key = false := fun h => by rw [bytesLess_tri]; simpa [h] using h42
  refine G9 ?_
  refine A3 (A3 ?_)
  refine J5 (by kernel_rfl) (by kernel_rfl) rfl ?_
  refine B2 rfl rfl (B9 rfl (A0 rfl)) ?_
  refine B2 rfl rfl (O8 rfl (A0 rfl) B6) ?_
  refine B2 rfl rfl (B9 rfl (A0 rfl)) ?_
  refine D2 rfl (H1 rfl rfl rfl) (fun hc => B9 rfl (A0 rfl)) ?_
  refine D2 rfl (H1 rfl rfl rfl) (fun hc => B9 rfl (A0 rfl)) ?_
  refine D2 rfl (H1 rfl rfl rfl) (fun hc => P9 rfl (A6 rfl hc) B6 (by first | omega | ((try simp only [C9, A8, szR] at *); omega) | (have hc2 := hc; simp only [P4, beq_iff_eq, bne_iff_ne, A9, E4] at hc2; omega))) ?_
  refine D2 rfl (H1 rfl rfl rfl) (fun hc => U2 2 rfl C7 E2 (A6 rfl hc) rfl (A6 rfl hc) (by first | omega | ((try simp only [C9, A8, szR] at *); omega) | (have hc2 := hc; simp only [P4, beq_iff_eq, bne_iff_ne, A9, E4] at hc2; omega)) (by first | omega | ((try simp only [C9, A8, szR] at *); omega) | (have hc2 := hc; simp only [P4, beq_iff_eq, bne_iff_ne, A9, E4] at hc2; omega))) ?_
  refine D2 rfl (H1 rfl rfl rfl) (fun hc => l7 2 rfl F4 rfl E5 (A6 rfl hc) rfl rfl (hrow0 (by first | omega | ((try simp only [C9, A8, szR] at *); omega) | (have hc2 := hc; simp only [P4, beq_iff_eq, bne_iff_ne, A9, E4] at hc2; omega)))) ?_
  refine D2 rfl (H1 rfl rfl rfl) (fun hc => s5 2 rfl (A6 rfl hc) rfl F7 (hrow0 (by first | omega | ((try simp only [C9, A8, szR] at *); omega) | (have hc2 := hc; simp only [P4, beq_iff_eq, bne_iff_ne, A9, E4] at hc2; omega))) rfl) ?_
  refine D2 rfl (H1 rfl rfl rfl) (fun hc => B1 0 rfl H0 rfl E5 (A0 rfl) rfl) ?_
  refine D2 rfl (H1 rfl rfl rfl) (fun hc => B0 1 rfl (A6 rfl hc) rfl F7 rfl) ?_
  refine D2 rfl (H1 rfl rfl rfl) (fun hc => w7 rfl (A6 rfl hc) (A6 rfl hc)) ?_
  refine B2 rfl rfl (I1 rfl (A0 rfl) (F9 rfl)) ?_
  refine P2 ?_
  refine C4 (A0 rfl) ?_ ?_
  ·intro h57
   have hf : 0 < j ∧ c.Key = x.Key := by simpa using h57
   have hc := hc0 (by omega)
   have hy := hy0 (by omega)
   have hins := Al1 hinvo.2.2.1.1 hc hf.2 ⟨t, x.Val, x.Gone⟩
   refine A3 (A3 (A2 ?_))
   refine A5 rfl ?_
   refine A1 rfl (B1 0 rfl H0 rfl E5 (A0 rfl) rfl) ?_
   refine A1 rfl (B0 1 rfl (A0 rfl) rfl F7 rfl) ?_
   refine A1 rfl (f7 rfl Tryz.call127 rfl (AF2 q x.Key hinvo.2.2.1 hso) (D8 _ _) (P3 (q6 (A0 rfl) (j0 TCell.lcM (by first | exact hlen | exact hlen.trans (j3 _ _).symm) 2 rfl (fun o ho => List.mem_of_mem_drop (i := 3) (show o ∈ nin TCell.ow q xs from by first | exact ho | exact List.mem_append_left _ ho | exact List.mem_append_right _ ho | exact List.mem_append_right _ (List.mem_append_left _ ho) | exact List.mem_append_right _ (List.mem_append_right _ ho))))) (P3 (evb (A0 rfl)) X3))) ?_
   refine A5 rfl ?_
   refine A1 rfl (c6 rfl (A0 rfl) (A0 rfl)) ?_
   refine A4 ?_
   refine C4 (A0 rfl) ?_ ?_
   ·intro h63
    have k63 := of_decide_eq_true h63; try simp only [A9] at k63
    have he : putP l w t = ([], false) := by unfold putP; rw [Am8 hinvo.2.2.2.2 hx k63]
    rw [he]
    refine A3 (A2 ?_)
    refine A1 rfl (B7 rfl M4) ?_
    refine A1 rfl (B7 rfl F8) ?_
    refine A4 ?_
    refine C5 ?_
    refine Y2 125 2 ?_
    first | exact M3 [0] ((Value.slice none 0 0), []) (rfl) rfl (by rfl) (T2 rfl (by decide) (F2 (B8 rfl (by rfl)) (F2 (B8 rfl (by rfl)) L7))) | exact f4 [0] 3 (nin TCell.ow q xs) [] ((Value.slice none 0 0), []) (rfl) rfl (show List.Perm (nin TCell.ow q xs) ((nin TCell.ow q xs) ++ []) from W6) (by rfl) (T2 rfl (by decide) (F2 (B8 rfl (by rfl)) (F2 (B8 rfl (by rfl)) L7))) | exact M3 [0] ((Value.slice none 0 0), xs) (hinv.2.1) rfl (by rfl) (T2 rfl (by decide) (F2 (B8 rfl (by rfl)) (F2 (B8 rfl (by rfl)) L7))) | exact f4 [0] 3 (nin TCell.ow q xs) [] ((Value.slice none 0 0), xs) (hinv.2.1) rfl (show List.Perm (nin TCell.ow q xs) ((nin TCell.ow q xs) ++ []) from W6) (by rfl) (T2 rfl (by decide) (F2 (B8 rfl (by rfl)) (F2 (B8 rfl (by rfl)) L7)))
   intro h63
   have k63 := of_decide_eq_false h63; try simp only [A9] at k63
   have hnt : ¬ t ≤ lastTime q x.Key := k63
   have hpo := (List.getElem?_eq_some_iff.1 hc).1
   have hA : (nrows TCell.ocs (q.take (j - 1)) (xs.take (j - 1))).length = ((j : Int) - 1).toNat := (AW1 (ocs := TCell.ocs) hc hy).trans (hj1 hf.1).symm
   obtain ⟨fx, hto⟩ : ∃ fx, RowsTo (nrows TCell.ocs (q.take (j - 1)) (xs.take (j - 1))) c.Key (c.Vers.map TVer.cs ++ [TVer.cs ⟨t, x.Val, x.Gone⟩]) (nrows TCell.ocs (q.drop (j - 1 + 1)) (xs.drop (j - 1 + 1))) (nin TCell.ow (q.eraseIdx (j - 1)) (xs.eraseIdx (j - 1))) (putC1 q x t) fx := ⟨_, by have h7 := AW9 hc hy hlen ⟨t, x.Val, x.Gone⟩; unfold putC1; rw [hins]; rw [hf.2] at h7 ⊢; exact h7⟩
   have hcs := f0 (Nat.le_trans (X6 hc) hso)
   rw [v8 hc hy]
   refine AWP.le (g7 3 (t := (TCell.ow c y) ++ (nin TCell.ow (q.eraseIdx (j - 1)) (xs.eraseIdx (j - 1)))) (AG2 (ow := TCell.ow) hc hy)) ?_
   refine C8 (A3 ?_)
   refine AWP.le (H4 [0, 1, 1] rfl) ?_
   refine S3 _ [(0, false), (1, false), (2, false), (3, false), (4, false), (5, false), (6, false), (7, false), (8, false), (9, false), (10, false), (11, true)] (by kernel_rfl) (by kernel_rfl) rfl (V3 2) ?_
   refine F1 rfl rfl rfl (fun ext => B9 rfl (A0 rfl)) ?_
   refine F1 rfl rfl rfl (fun ext => B9 rfl (A0 rfl)) ?_
   refine F1 rfl rfl rfl (fun ext => P9 rfl (A0 rfl) B6 (by first | omega | (simp only [C9, A8, szR] at *; omega))) ?_
   refine F1 rfl rfl rfl (fun ext => B9 rfl (A0 rfl)) ?_
   refine F1 rfl rfl rfl (fun ext => B9 rfl (A0 rfl)) ?_
   refine F1 rfl rfl rfl (fun ext => P9 rfl (A0 rfl) B6 (by first | omega | (simp only [C9, A8, szR] at *; omega))) ?_
   refine F1 rfl rfl rfl (fun ext => U2 1 rfl C7 E2 (A0 rfl) rfl (A0 rfl) (by omega) (by rw [H5, I5]; omega)) ?_
   refine F1 rfl rfl rfl (fun ext => l7 1 rfl F4 rfl K1 (A0 rfl) rfl rfl (c0 hA)) ?_
   refine F1 rfl rfl rfl (fun ext => s5 1 rfl (A0 rfl) rfl N5 (c0 hA) rfl) ?_
   refine F1 rfl rfl rfl (fun ext => G5 0 rfl (A0 rfl) rfl a6 L1 rfl) ?_
   refine F1 rfl rfl rfl (fun ext => L2 rfl G8 L1 Tryz.zeroValue127 rfl rfl rfl rfl (D3 (A0 rfl) (F0 _) I2) rfl rfl) ?_
   refine T5 rfl rfl rfl (O4 (by' := 32) 2 rfl G8 Tryz.type127 rfl rfl rfl rfl rfl rfl (A0 rfl) (A0 rfl) rfl (by first | omega | (simp only [C9, A8, szR] at *; omega))) (fun a _ => (by first | exact F3 rfl | exact F3 (List.append_assoc _ _ _) | exact I3)) ?_
   intro v75_2 _
   refine g6 ?_
   refine A1 rfl (U2 1 rfl C7 E2 (A0 rfl) rfl (A0 rfl) (by omega) (by rw [H5, I5]; omega)) ?_
   refine A1 rfl (l7 1 rfl F4 rfl K1 (A0 rfl) rfl rfl (c0 hA)) ?_
   refine V2 2 rfl fun one_v75_2 => ?_
   refine q7 1 rfl rfl rfl (A0 rfl) (A0 rfl) (U9 one_v75_2) rfl K1 hA rfl ?_
   refine A4 ?_
   refine G9 ?_
   refine N7 (by first | (simp only [List.singleton_append, pick, S4, S0, R7, Q4, R8, List.nil_append, S5, S1, List.append_nil, Q3, List.take_zero, Q5, List.drop_zero]; exact rfl) | exact rfl) ?_
   refine AWP.le (H4 [0, 0, 1, 0] rfl) ?_
   refine AWP.le (g7 3 (t := nin TCell.ow (putC1 q x t) (fx v75_2)) ((hto v75_2).2.2)) ?_
   refine A2 ?_
   refine A1 rfl (G7 rfl (A0 rfl) B6 (by first | omega | (simp only [C9, A8, szR] at *; omega))) ?_
   refine A5 rfl ?_
   refine A4 ?_
   refine T8 i v q xs (i + 1) (v) (putC1 q x t) (fx v75_2) ?_ ?_ (Le.trans (H4 [0, 1, 0] rfl) (L5 2 (Eq.trans (by first | exact congrArg (fun z => Own.arr _ _ _ z :: _) (hto v75_2).2.1 | exact congrArg (fun z => Own.arr _ _ _ z :: _) (by first | (rw [List.nil_append, List.append_assoc]; exact (hto v75_2).2.1) | (rw [List.append_assoc]; exact (hto v75_2).2.1))) (List.append_nil _).symm) ⟨rfl, rfl, rfl, rfl, rfl, trivial⟩))
   ·exact ⟨by omega, (hto _).1, e7 hinvo.2.2.1 _ _, by have h8 := i8 q x t; have h9 := d4 (f := TWrite.size) hx; omega, t6 hinvo.2.2.2.2 hx hnt⟩
   omega
  intro h57
  have hnf : 0 < j → c.Key ≠ x.Key := fun h => by simpa [h] using h57
  obtain ⟨hins, hl0⟩ := scan_new hinvo.2.2.1.1 hinv.1 hinv.2 (fun z hz hzz => by rw [hc0 (by omega)] at hzz; injection hzz with hzz; subst hzz; rw [bytesLess_tri, hng hz]; simpa using fun e => hnf hz e.symm) ⟨t, x.Val, x.Gone⟩
  have hnt : ¬ t ≤ lastTime q x.Key := by rw [hl0]; omega
  obtain ⟨fx, hto⟩ : ∃ fx, RowsTo ((nrows TCell.ocs q xs).take j) x.Key [TVer.cs ⟨t, x.Val, x.Gone⟩] ((nrows TCell.ocs q xs).drop j) (nin TCell.ow q xs) (putC1 q x t) fx := ⟨_, by unfold putC1; rw [hins]; exact AX0 hinv.1 hlen _ _⟩
  refine C8 (A3 ?_)
  refine AWP.le (Z3 [2] 8 rfl rfl (N8 (G2 (i := 0) rfl) J7) Q1) ?_
  refine A2 ?_
  refine U3 rfl rfl rfl rfl C7 E2 ?_
  intro v78
  refine A5 rfl ?_
  refine A5 rfl ?_
  refine A1 rfl (Ak0 rfl C7 E2 (A0 rfl) (A0 rfl) (by omega) (by rw [hrl]; omega)) ?_
  refine N3 (by' := 40) 0 rfl rfl rfl rfl C7 Tryz.type125 rfl rfl rfl rfl rfl rfl (A0 rfl) (A0 rfl) rfl (by simp only [L6, List.nil_append, H5, E4, List.length_drop, I5, A8, hrl]; omega) ?_
  intro v82_3
  refine B5 rfl ?_
  refine A4 ?_
  refine AWP.le (Z3 [0] 13 rfl rfl (N8 (G2 (i := 0) rfl) J7) Q1) ?_
  refine AWP.le (H4 [0, 0] rfl) ?_
  refine Y3 _ 14 (.pure 1 (.pure 2 (.pure 3 (.pure 5 (.pure 6 (.pure 7 (.pure 12 (.e2 0 (.e2 4 (.e1 8 (.pure 9 (.pure 10 (.e1 11 (.e1 13 .nil))))) 8 (.pure 9 (.pure 10 (.e1 4 (.e1 11 (.e1 13 .nil)))))) 8 (.pure 9 (.pure 10 (.e1 0 (.e1 4 (.e1 11 (.e1 13 .nil)))))))))))))) (by kernel_rfl) (by kernel_rfl) rfl (V3 2) ?_
  refine G6 rfl rfl rfl (fun ext => B9 rfl (A0 rfl)) ?_
  refine G6 rfl rfl rfl (fun ext => B9 rfl (A0 rfl)) ?_
  refine G6 rfl rfl rfl (fun ext => Aj9 rfl C7 E2 (A0 rfl) (A0 rfl) (by omega) (by rw [hrl]; omega)) ?_
  refine G6 rfl rfl rfl (fun ext => B1 0 rfl H0 rfl E5 (A0 rfl) rfl) ?_
  refine G6 rfl rfl rfl (fun ext => B0 1 rfl (A0 rfl) rfl F7 rfl) ?_
  refine G6 rfl rfl rfl (fun ext => G5 0 rfl (A0 rfl) rfl a6 L1 rfl) ?_
  refine G6 rfl rfl rfl (fun ext => B9 rfl (A0 rfl)) ?_
  refine AO4 ?_ ?_
  ·refine U4 rfl rfl rfl (AB2 2 <| Y7 rfl C7 E2) (fun a _ => (by first | exact F3 rfl | exact F3 (List.append_assoc _ _ _) | exact I3)) ?_
   intro v83 _
   refine AO4 ?_ ?_
   ·refine U4 rfl rfl rfl (O4 (by' := 40) 2 rfl C7 Tryz.type125 rfl rfl rfl rfl rfl rfl (A0 rfl) (A0 rfl) rfl (by simp only [L6, List.nil_append, H5, E4, List.length_drop, I5, A8, hrl]; omega)) (fun a _ => (by first | exact F3 rfl | exact F3 (List.append_assoc _ _ _) | exact I3)) ?_
    intro v87_4 _
    refine X1 ?_
    refine U4 rfl rfl rfl (j7 3 (fun _ => rfl) (AB2 3 <| AH6 rfl G8 L1 Tryz.zeroValue127 rfl rfl rfl rfl (D3 (A0 rfl) (F0 _) I2) rfl rfl)) (fun a _ => (by first | exact F3 rfl | exact F3 (List.append_assoc _ _ _) | exact I3)) ?_
    intro v91 hone_v91
    have one_v91 := hone_v91.2
    refine G6 rfl rfl rfl (fun ext => P0 (places := #[(0, 1), (1, 1)]) rfl F4 Tryz.zeroValue125 (fun w => by kernel_rfl) rfl (D3 (A0 rfl) (O5 _) (D3 (A0 rfl) (U9 one_v91) I2)) rfl) ?_
    refine G6 rfl rfl rfl (fun ext => L2 rfl C7 E2 Tryz.zeroValue125 rfl rfl rfl rfl (D3 (A0 rfl) (F0 _) I2) rfl rfl) ?_
    refine X1 ?_
    refine U4 rfl rfl rfl (O4 (by' := 40) 2 rfl C7 Tryz.type125 rfl rfl rfl rfl rfl rfl (A0 rfl) (A0 rfl) rfl (by simp only [L6, List.nil_append, H5, E4, List.length_drop, I5, A8, hrl]; omega)) (fun a _ => (by first | exact F3 rfl | exact F3 (List.append_assoc _ _ _) | exact I3)) ?_
    intro v94_5 _
    refine X1 ?_
    refine U4 rfl rfl rfl (O4 (by' := 40) 2 rfl C7 Tryz.type125 rfl rfl rfl rfl rfl rfl (A0 rfl) (A0 rfl) rfl (by simp only [L6, List.nil_append, H5, E4, List.length_drop, I5, A8, hrl]; omega)) (fun a _ => (by first | exact F3 rfl | exact F3 (List.append_assoc _ _ _) | exact I3)) ?_
    intro v96_6 _
    refine d7 ?_
    refine B5 rfl ?_
    refine A4 ?_
    refine N7 (by first | (simp only [List.singleton_append, pick, S4, S0, R7, Q4, R8, List.nil_append, S5, S1, List.append_nil, Q3, List.take_zero, Q5, List.drop_zero]; exact rfl) | exact rfl) ?_
    refine AWP.le (H4 [0, 0, 0, 0] rfl) ?_
    refine AWP.le (g7 3 (t := nin TCell.ow (putC1 q x t) (fx v91)) ((hto v91).2.2)) ?_
    refine A2 ?_
    refine A1 rfl (G7 rfl (A0 rfl) B6 (by first | omega | (simp only [C9, A8, szR] at *; omega))) ?_
    refine A5 rfl ?_
    refine A4 ?_
    refine T8 i v q xs (i + 1) (v96_6) (putC1 q x t) (fx v91) ?_ ?_ (Le.trans (H4 [0, 0, 0] rfl) (L5 2 (Eq.trans (by first | exact congrArg (fun z => Own.arr _ _ _ z :: _) (hto v91).2.1 | exact congrArg (fun z => Own.arr _ _ _ z :: _) (by first | (rw [List.nil_append, List.append_assoc]; exact (hto v91).2.1) | (rw [List.append_assoc]; exact (hto v91).2.1))) (List.append_nil _).symm) ⟨rfl, rfl, rfl, rfl, rfl, trivial⟩))
    ·exact ⟨by omega, (hto _).1, e7 hinvo.2.2.1 _ _, by have h8 := i8 q x t; have h9 := d4 (f := TWrite.size) hx; omega, t6 hinvo.2.2.2.2 hx hnt⟩
    omega
   refine U4 rfl rfl rfl (j7 3 (fun _ => rfl) (AB2 3 <| AH6 rfl G8 L1 Tryz.zeroValue127 rfl rfl rfl rfl (D3 (A0 rfl) (F0 _) I2) rfl rfl)) (fun a _ => (by first | exact F3 rfl | exact F3 (List.append_assoc _ _ _) | exact I3)) ?_
   intro v91 hone_v91
   have one_v91 := hone_v91.2
   refine G6 rfl rfl rfl (fun ext => P0 (places := #[(0, 1), (1, 1)]) rfl F4 Tryz.zeroValue125 (fun w => by kernel_rfl) rfl (D3 (A0 rfl) (O5 _) (D3 (A0 rfl) (U9 one_v91) I2)) rfl) ?_
   refine G6 rfl rfl rfl (fun ext => L2 rfl C7 E2 Tryz.zeroValue125 rfl rfl rfl rfl (D3 (A0 rfl) (F0 _) I2) rfl rfl) ?_
   refine X1 ?_
   refine U4 rfl rfl rfl (O4 (by' := 40) 2 rfl C7 Tryz.type125 rfl rfl rfl rfl rfl rfl (A0 rfl) (A0 rfl) rfl (by simp only [L6, List.nil_append, H5, E4, List.length_drop, I5, A8, hrl]; omega)) (fun a _ => (by first | exact F3 rfl | exact F3 (List.append_assoc _ _ _) | exact I3)) ?_
   intro v87_7 _
   refine X1 ?_
   refine U4 rfl rfl rfl (O4 (by' := 40) 2 rfl C7 Tryz.type125 rfl rfl rfl rfl rfl rfl (A0 rfl) (A0 rfl) rfl (by simp only [L6, List.nil_append, H5, E4, List.length_drop, I5, A8, hrl]; omega)) (fun a _ => (by first | exact F3 rfl | exact F3 (List.append_assoc _ _ _) | exact I3)) ?_
   intro v94_8 _
   refine X1 ?_
   refine U4 rfl rfl rfl (O4 (by' := 40) 2 rfl C7 Tryz.type125 rfl rfl rfl rfl rfl rfl (A0 rfl) (A0 rfl) rfl (by simp only [L6, List.nil_append, H5, E4, List.length_drop, I5, A8, hrl]; omega)) (fun a _ => (by first | exact F3 rfl | exact F3 (List.append_assoc _ _ _) | exact I3)) ?_
   intro v96_9 _
   refine d7 ?_
   refine B5 rfl ?_
   refine A4 ?_
   refine N7 (by first | (simp only [List.singleton_append, pick, S4, S0, R7, Q4, R8, List.nil_append, S5, S1, List.append_nil, Q3, List.take_zero, Q5, List.drop_zero]; exact rfl) | exact rfl) ?_
   refine AWP.le (H4 [0, 0, 0, 0] rfl) ?_
   refine AWP.le (g7 3 (t := nin TCell.ow (putC1 q x t) (fx v91)) ((hto v91).2.2)) ?_
   refine A2 ?_
   refine A1 rfl (G7 rfl (A0 rfl) B6 (by first | omega | (simp only [C9, A8, szR] at *; omega))) ?_
   refine A5 rfl ?_
   refine A4 ?_
   refine T8 i v q xs (i + 1) (v96_9) (putC1 q x t) (fx v91) ?_ ?_ (Le.trans (H4 [0, 0, 0] rfl) (L5 2 (Eq.trans (by first | exact congrArg (fun z => Own.arr _ _ _ z :: _) (hto v91).2.1 | exact congrArg (fun z => Own.arr _ _ _ z :: _) (by first | (rw [List.nil_append, List.append_assoc]; exact (hto v91).2.1) | (rw [List.append_assoc]; exact (hto v91).2.1))) (List.append_nil _).symm) ⟨rfl, rfl, rfl, rfl, rfl, trivial⟩))
   ·exact ⟨by omega, (hto _).1, e7 hinvo.2.2.1 _ _, by have h8 := i8 q x t; have h9 := d4 (f := TWrite.size) hx; omega, t6 hinvo.2.2.2.2 hx hnt⟩
   omega
  refine U4 rfl rfl rfl (j7 2 (fun _ => rfl) (AB2 2 <| AH6 rfl G8 L1 Tryz.zeroValue127 rfl rfl rfl rfl (D3 (A0 rfl) (F0 _) I2) rfl rfl)) (fun a _ => (by first | exact F3 rfl | exact F3 (List.append_assoc _ _ _) | exact I3)) ?_
  intro v91 hone_v91
  have one_v91 := hone_v91.2
  refine G6 rfl rfl rfl (fun ext => P0 (places := #[(0, 1), (1, 1)]) rfl F4 Tryz.zeroValue125 (fun w => by kernel_rfl) rfl (D3 (A0 rfl) (O5 _) (D3 (A0 rfl) (U9 one_v91) I2)) rfl) ?_
  refine G6 rfl rfl rfl (fun ext => L2 rfl C7 E2 Tryz.zeroValue125 rfl rfl rfl rfl (D3 (A0 rfl) (F0 _) I2) rfl rfl) ?_
  refine X1 ?_
  refine U4 rfl rfl rfl (AB2 3 <| Y7 rfl C7 E2) (fun a _ => (by first | exact F3 rfl | exact F3 (List.append_assoc _ _ _) | exact I3)) ?_
  intro v83 _
  refine X1 ?_
  refine U4 rfl rfl rfl (O4 (by' := 40) 3 rfl C7 Tryz.type125 rfl rfl rfl rfl rfl rfl (A0 rfl) (A0 rfl) rfl (by simp only [L6, List.nil_append, H5, E4, List.length_drop, I5, A8, hrl]; omega)) (fun a _ => (by first | exact F3 rfl | exact F3 (List.append_assoc _ _ _) | exact I3)) ?_
  intro v87_10 _
  refine X1 ?_
  refine U4 rfl rfl rfl (O4 (by' := 40) 3 rfl C7 Tryz.type125 rfl rfl rfl rfl rfl rfl (A0 rfl) (A0 rfl) rfl (by simp only [L6, List.nil_append, H5, E4, List.length_drop, I5, A8, hrl]; omega)) (fun a _ => (by first | exact F3 rfl | exact F3 (List.append_assoc _ _ _) | exact I3)) ?_
  intro v94_11 _
  refine X1 ?_
  refine U4 rfl rfl rfl (O4 (by' := 40) 3 rfl C7 Tryz.type125 rfl rfl rfl rfl rfl rfl (A0 rfl) (A0 rfl) rfl (by simp only [L6, List.nil_append, H5, E4, List.length_drop, I5, A8, hrl]; omega)) (fun a _ => (by first | exact F3 rfl | exact F3 (List.append_assoc _ _ _) | exact I3)) ?_
  intro v96_12 _
  refine d7 ?_
  refine B5 rfl ?_
  refine A4 ?_
  refine N7 (by first | (simp only [List.singleton_append, pick, S4, S0, R7, Q4, R8, List.nil_append, S5, S1, List.append_nil, Q3, List.take_zero, Q5, List.drop_zero]; exact rfl) | exact rfl) ?_
  refine AWP.le (H4 [0, 0, 1, 0] rfl) ?_
  refine AWP.le (g7 3 (t := nin TCell.ow (putC1 q x t) (fx v91)) ((hto v91).2.2)) ?_
  refine A2 ?_
  refine A1 rfl (G7 rfl (A0 rfl) B6 (by first | omega | (simp only [C9, A8, szR] at *; omega))) ?_
  refine A5 rfl ?_
  refine A4 ?_
  refine T8 i v q xs (i + 1) (v96_12) (putC1 q x t) (fx v91) ?_ ?_ (Le.trans (H4 [0, 0, 0] rfl) (L5 2 (Eq.trans (by first | exact congrArg (fun z => Own.arr _ _ _ z :: _) (hto v91).2.1 | exact congrArg (fun z => Own.arr _ _ _ z :: _) (by first | (rw [List.nil_append, List.append_assoc]; exact (hto v91).2.1) | (rw [List.append_assoc]; exact (hto v91).2.1))) (List.append_nil _).symm) ⟨rfl, rfl, rfl, rfl, rfl, trivial⟩))
  ·exact ⟨by omega, (hto _).1, e7 hinvo.2.2.1 _ _, by have h8 := i8 q x t; have h9 := d4 (f := TWrite.size) hx; omega, t6 hinvo.2.2.2.2 hx hnt⟩
  omega
 intro h19
 have k19 := of_decide_eq_false h19; try simp only [A9] at k19
 have hge : w.length ≤ i := by omega
 have hpe := At3 hinv.2.2.2.2 hge
 have htk := r5 (f := TWrite.size) (l := w) i
 have hso : sizeL TCell.size q ≤ 4194304 := by omega
 have he : putP l w t = (q, l3Good q) := by unfold putP; rw [hpe]
 rw [he]
 refine G9 ?_
 refine A3 (A2 ?_)
 refine A5 rfl ?_
 refine A5 rfl ?_
 refine A1 rfl (f7 rfl Tryz.call125 rfl (AQ1 q hso) (D5 _) (P3 (q6 (A0 rfl) (j0 TCell.lcM (by first | exact hlen | exact hlen.trans (j3 _ _).symm) 0 rfl (fun o ho => List.mem_of_mem_drop (i := 1) (show o ∈ nin TCell.ow q xs from by first | exact ho | exact List.mem_append_left _ ho | exact List.mem_append_right _ ho | exact List.mem_append_right _ (List.mem_append_left _ ho) | exact List.mem_append_right _ (List.mem_append_right _ ho))))) X3)) ?_
 refine B5 rfl ?_
 refine B5 rfl ?_
 refine A4 ?_
 refine C5 ?_
 first | exact M3 [0] (v, []) (rfl) rfl (by rfl) (T2 rfl (by decide) (F2 (B8 rfl (by rfl)) (F2 (B8 rfl (by rfl)) L7))) | exact f4 [0] 0 (nin TCell.ow q xs) [] (v, []) (rfl) rfl (show List.Perm (nin TCell.ow q xs) ((nin TCell.ow q xs) ++ []) from W6) (by rfl) (T2 rfl (by decide) (F2 (B8 rfl (by rfl)) (F2 (B8 rfl (by rfl)) L7))) | exact f4 [0] 0 (nin TCell.ow q xs) [] (v, xs) (hinv.2.1) rfl (show List.Perm (nin TCell.ow q xs) ((nin TCell.ow q xs) ++ []) from W6) (by rfl) (T2 rfl (by decide) (F2 (B8 rfl (by rfl)) (F2 (B8 rfl (by rfl)) L7)))
end Go.Proofs.YtkegepoihkhihaaGreat

namespace Go.AV
section
variable {P : Program} {G : Nat → Prop} {n : Nat} {own : List Own} {env : List (Nat × AV)} {fn : Func}
theorem AM7 {sel : List Own} {cs : List AV} {sz : Nat} (j : Nat) (h : cs[j]? = some AV.nils) : LendC sel cs (cs.set j (AV.list sz [])) := ⟨by rw [List.length_set], fun i x y hx hy => by
  by_cases e : j = i
  · subst e
    rw [List.getElem?_set_self (List.getElem?_eq_some_iff.1 h).1] at hy
    rw [h] at hx
    injection hx with hx; injection hy with hy; subst hx; subst hy
    exact lt_nils
  · rw [List.getElem?_set_ne e, hx] at hy
    injection hy with hy; subst hy; exact M9⟩
theorem AT4 {E : EnvF} {q : Operand} {v : Value} {e : TypeId} {sz : Nat} {es : List (List AV)} (i : Nat) (hi : own[i]? = some (.arr v e sz es)) (hq : Ev E q (AV.is v)) : SrcE own E q sz es := fun G w0 R0 R a w hc he => by
  have e1 : a.eval q = _ := hq R a he
  have hok := hc.owned _ (G2 hi)
  have hu := hok.2.1
  refine ⟨hu, ?_⟩
  obtain ⟨_, _, xs0, hown0, _⟩ := hok
  rcases hown0.2 with ⟨h1, h2⟩ | ⟨g, cap, cur0, h1, _⟩
  · subst h1
    have h3 : es = [] := List.eq_nil_of_length_eq_zero h2
    subst h3
    exact ⟨none, 0, [], e1, fun h => absurd rfl h⟩
  · subst h1
    by_cases hne : es = []
    · subst hne; exact ⟨_, cap, [], e1, fun h => absurd rfl h⟩
    · have hsrc := AB6 (own := own) (E := E) (q := q) i hi hq
      obtain ⟨_, h7⟩ := hsrc G w0 R0 R a w hc he
      obtain ⟨ad, c, vs, k1, k2, k3⟩ := h7 hne
      exact ⟨_, c, vs, k1, fun _ => ⟨ad, rfl, k2, k3⟩⟩
theorem Ae9 {o : Oper} {ops : Array Oper} {E : EnvF} {α : Type} {ok : α → Prop} {W' : α → List Own} {V : α → AV} {sel rest : α → List Own} {Y : α → AV} (is : List Nat) (hp : ∀ a, pick (W' a) is = (sel a, rest a)) (hl : ∀ a, LendTo (sel a) (V a) (Y a)) (hG : ∀ a b, G b → b ∈ (rest a).filterMap Own.blk)
    (h : OpE P G n own ops o E ok W' V) : OpE P G n own ops o E ok rest Y := fun w0 R0 R a w h1 h2 h3 =>
  Oper.wp_mono2 (fun a' w' ⟨x, v, R', e0, e1, e2, e3, e4⟩ =>
    have hk := i3 e2 (hp x)
    ⟨x, v, lend (sel x) w' R', e0, e1, AI4 hk (hG x), e3.trans (e6 (U5 hk)), hl x G w0 R0 R' w' v (U5 hk) e4⟩) (fun _ _ _ h => h) (h w0 R0 R a w h1 h2 h3)
theorem AA6 (i j sz : Nat) {b : Nat} {t : TypeId} {cs : List AV} (hi : own[i]? = some (.box b t cs)) (hj : cs[j]? = some AV.nils) (hG : ∀ b, G b → b ∈ own.filterMap Own.blk) : Le G n ⟨own, env⟩ ⟨own.set i (.box b t (cs.set j (AV.list sz []))), env⟩ :=
  t2 [] i (.box b t (cs.set j (AV.list sz []))) rfl hi ⟨rfl, rfl, AM7 j hj⟩ hG
theorem Z9 {α : Type} {ok : α → Prop} {O : α → List Own} {V : α → AV} (i j sz : Nat) {b : Nat} {t : TypeId} {cs : List AV} (hi : own[i]? = some (.box b t cs)) (hj : cs[j]? = some AV.nils) (hG : ∀ b, G b → b ∈ own.filterMap Own.blk)
    (k : RetOkG P G n fn ⟨own.set i (.box b t (cs.set j (AV.list sz []))), env⟩ ok O V) : RetOkG P G n fn ⟨own, env⟩ ok O V := fun w0 R0 R a w hs => by
  have hle : Le G n ⟨own, env⟩ ⟨own.set i (.box b t (cs.set j (AV.list sz []))), env⟩ := t2 [] i (.box b t (cs.set j (AV.list sz []))) rfl hi ⟨rfl, rfl, AM7 j hj⟩ hG
  obtain ⟨R1, h1, h2⟩ := hle w0 R0 R a w hs
  obtain ⟨x, v, R2, g0, g1, g2, g3, g4⟩ := k w0 R0 R1 a w h2
  exact ⟨x, v, R2, g0, g1, g2, h1.trans g3, g4⟩
theorem AQ7 {y : AV} (i j sz : Nat) {b : Nat} {t : TypeId} {cs : List AV} (hi : own[i]? = some (.box b t cs)) (hj : cs[j]? = some AV.nils)
    (k : RetOk P (fun _ => False) n fn ⟨own.set i (.box b t (cs.set j (AV.list sz []))), env⟩ y) : RetOk P (fun _ => False) n fn ⟨own, env⟩ y := fun w0 R0 R a w hs => by
  have hle : Le (fun _ => False) n ⟨own, env⟩ ⟨own.set i (.box b t (cs.set j (AV.list sz []))), env⟩ := t2 [] i (.box b t (cs.set j (AV.list sz []))) rfl hi ⟨rfl, rfl, AM7 j hj⟩ Ae4
  obtain ⟨R1, h1, h2⟩ := hle w0 R0 R a w hs
  obtain ⟨v, R2, h3, h4, h5, h6⟩ := k w0 R0 R1 a w h2
  exact ⟨v, R2, h3, h4, h1.trans h5, h6⟩
end
end Go.AV

set_option maxHeartbeats 1000000
namespace Go.M
open Go.AV
theorem Af0 {h : THeld} : ∀ {l : List THeld} {p : Nat}, p ≤ l.length → (∀ i x, i < p → l[i]? = some x → x.Txn ≤ h.Txn) → (∀ x, l[p]? = some x → h.Txn < x.Txn) → insH h l = l.take p ++ h :: l.drop p
  | [], p, hp, _, _ => by simp at hp; subst hp; rfl
  | g :: l, 0, _, _, h2 => by unfold insH; rw [if_pos (h2 g rfl)]; rfl
  | g :: l, p + 1, hp, h1, h2 => by
    unfold insH
    rw [if_neg (by have := h1 0 g (by omega) rfl; omega), Af0 (by simpa using hp) (fun i x hi hx => h1 (i + 1) x (by omega) (by simpa using hx)) (fun x hx => h2 x (by simpa using hx))]
    rfl
theorem Af1 {h : TTold} : ∀ {l : List TTold} {p : Nat}, p ≤ l.length → (∀ i x, i < p → l[i]? = some x → x.Txn ≤ h.Txn) → (∀ x, l[p]? = some x → h.Txn < x.Txn) → insT h l = l.take p ++ h :: l.drop p
  | [], p, hp, _, _ => by simp at hp; subst hp; rfl
  | g :: l, 0, _, _, h2 => by unfold insT; rw [if_pos (h2 g rfl)]; rfl
  | g :: l, p + 1, hp, h1, h2 => by
    unfold insT
    rw [if_neg (by have := h1 0 g (by omega) rfl; omega), Af1 (by simpa using hp) (fun i x hi hx => h1 (i + 1) x (by omega) (by simpa using hx)) (fun x hx => h2 x (by simpa using hx))]
    rfl
def THeld.ocs (h : THeld) (x : Value × Value) : List AV := [AV.int h.Txn, AV.int h.Time, AV.int h.Lead, AV.is x.1, AV.is x.2]
def TState.ocs (s : TState) (x : Value × Value) : List AV := [AV.int s.Floor, AV.list 2 (s.Cells.map TCell.cs), AV.is x.1, AV.is x.2]
end Go.M
namespace Go.Proofs.YtkegepoihkhihaaGreat
open Go Go.AV Go.M
def THeld.ow (h : THeld) (x : Value × Value) : List Own := [.arr x.1 9 1 (h.Reads.map fun k => [AV.str k]), .arr x.2 101 3 (h.Writes.map TWrite.cs)]
def TState.ow (s : TState) (x : Value × Value) : List Own := [.arr x.1 141 5 (s.Held.map THeld.cs), .arr x.2 144 3 (s.Told.map TTold.cs)]
theorem THeld.lc (h : THeld) (x : Value × Value) : LendC (THeld.ow h x) (THeld.ocs h x) h.cs :=
  H7 M9 (H7 M9 (H7 M9 (H7 (N8 (G2 (i := 0) rfl) J7) (H7 (N8 (G2 (i := 1) rfl) J7) V9))))
theorem TState.lc (s : TState) (x : Value × Value) : LendC (TState.ow s x) (TState.ocs s x) s.cs :=
  H7 M9 (H7 M9 (H7 (N8 (G2 (i := 0) rfl) J7) (H7 (N8 (G2 (i := 1) rfl) J7) V9)))
attribute [local irreducible] OpW OpA OpS AWP FSpec ESpec GSpec OpE RetOk RetOkG RvDen Le Ev GuardIs SrcIs Int.tmod Int.tdiv IntKind.wrap
end Go.Proofs.YtkegepoihkhihaaGreat

namespace Go.M
open Go.AV
def settled (s : TState) : Int := s.Held.foldl (fun o h => min o (h.Time - 1)) s.Floor
structure Keeps (s s' : TState) : Prop where
  floor : s.Floor ≤ s'.Floor
  told : ∀ t ∈ s.Told, t ∈ s'.Told
  tlen : s.Told.length ≤ s'.Told.length
  settled : settled s ≤ settled s'
  cells : ∀ a, a ≤ M.settled s → cellsAt s'.Cells a = cellsAt s.Cells a
theorem Keeps.refl (s : TState) : Keeps s s := ⟨Int.le_refl _, fun _ h => h, Nat.le_refl _, Int.le_refl _, fun _ _ => rfl⟩
theorem Keeps.trans {a b c : TState} (h : Keeps a b) (k : Keeps b c) : Keeps a c :=
  ⟨Int.le_trans h.floor k.floor, fun t ht => k.told t (h.told t ht), Nat.le_trans h.tlen k.tlen, Int.le_trans h.settled k.settled, fun x hx => (k.cells x (Int.le_trans hx h.settled)).trans (h.cells x hx)⟩
theorem Aq0 {l : List TCell} {k : Str} {u : TVer} (h : (versOf l k).getLast? = some u) : lastTime l k = u.Time := by
  unfold versOf at h
  unfold lastTime lastV
  cases e : findC l k with
  | none => rw [e] at h; cases h
  | some c => rw [e] at h; dsimp only at h ⊢; rw [h]
end Go.M

namespace Go.M
open Go.AV
def stateOfR (l : List TRec) : TState × List Bool × Bool := if l.length ≤ 60 ∧ l.all goodRec = true then (stFrom zState l, didFrom zState l, true) else (zState, [], false)
theorem w5 {s : TState} {l : List TRec} {i : Nat} {r : TRec} (h : l[i]? = some r) : stFrom s (l.take (i + 1)) = stepS (stFrom s (l.take i)) r := by
  unfold stFrom
  rw [List.take_add_one, h, List.foldl_append]; rfl
theorem AG7 : ∀ {l : List TRec} {s : TState} {r : TRec}, didFrom s (l ++ [r]) = didFrom s l ++ [(applyS (stFrom s l) r).2]
  | [], s, r => rfl
  | x :: l, s, r => by
    show _ :: didFrom (stepS s x) (l ++ [r]) = _
    rw [AG7]; rfl
theorem r6 {s : TState} {l : List TRec} {i : Nat} {r : TRec} (h : l[i]? = some r) : didFrom s (l.take (i + 1)) = didFrom s (l.take i) ++ [(applyS (stFrom s (l.take i)) r).2] := by
  rw [List.take_add_one, h]; exact AG7
def phi (s : TState) : Nat := sizeL TCell.size s.Cells + 3 * sizeL THeld.size s.Held + s.Told.length
theorem AI6 (s : TState) : s.size ≤ phi s := by
  have h1 : s.size = sizeL TCell.size s.Cells + sizeL THeld.size s.Held + s.Told.length := rfl
  unfold phi; omega
theorem Aw2 {α : Type} {f : α → Nat} {a b : List α} (h : a.Perm b) : sizeL f a = sizeL f b := by
  unfold sizeL; rw [h.length_eq, (h.map f).sum_nat]
theorem An0 {t : Int} : ∀ {w : List TWrite} {l q : List TCell}, putAll l w t = some q → sizeL TCell.size q ≤ sizeL TCell.size l + 2 * sizeL TWrite.size w
  | [], l, q, h => by simp [putAll] at h; subst h; omega
  | x :: w, l, q, h => by
    unfold putAll at h
    split at h
    · cases h
    · have h1 := An0 h
      have h2 := i8 l x t
      rw [N6]; omega
theorem Aw3 {l : List THeld} {n : Int} {h : THeld} (hf : findH l n = some h) : sizeL THeld.size (lessH l n) + (1 + h.size) ≤ sizeL THeld.size l := by
  induction l with
  | nil => simp [findH] at hf
  | cons g l ih =>
    unfold findH at hf ih
    rw [List.find?_cons] at hf
    unfold lessH at ih ⊢
    by_cases e : g.Txn = n
    · rw [beq_iff_eq.2 e] at hf
      injection hf with hf; subst hf
      rw [List.filter_cons_of_neg (by simp [e]), N6]
      have : sizeL THeld.size (l.filter fun h => h.Txn != n) ≤ sizeL THeld.size l := by
        clear ih
        induction l with
        | nil => exact Nat.le_refl _
        | cons y l ih =>
          rw [List.filter_cons]
          split
          · rw [N6, N6]; omega
          · rw [N6]; omega
      omega
    · rw [beq_eq_false_iff_ne.2 e] at hf
      rw [List.filter_cons_of_pos (by simp [e]), N6, N6]
      have := ih hf; omega
theorem AF3 (l : List THeld) (n : Int) : sizeL THeld.size (lessH l n) ≤ sizeL THeld.size l := by
  induction l with
  | nil => exact Nat.le_refl _
  | cons y l ih =>
    unfold lessH at ih ⊢
    rw [List.filter_cons]
    split
    · rw [N6, N6]; omega
    · rw [N6]; omega
theorem BA7 (s : TState) (r : TRec) : phi (applyS s r).1 ≤ phi s + 3 * (1 + r.size) + 1 := by
  have hh : (hOf r).size = r.size := rfl
  have hins : sizeL THeld.size (insH (hOf r) s.Held) = 1 + r.size + sizeL THeld.size s.Held := by rw [Aw2 (AL9 _ _), N6, hh]
  have htl : ∀ t : TTold, (insT t s.Told).length = s.Told.length + 1 := fun t => by rw [(AM0 _ _).length_eq]; rfl
  have h2 := AF3 s.Held r.Txn
  unfold applyS
  split
  · unfold phi; dsimp only; omega
  · split
    · dsimp only; omega
    · split
      · unfold phi; dsimp only; rw [hins]; omega
      · split
        · cases hf : findH s.Held r.Txn with
          | none => dsimp only; omega
          | some h =>
            dsimp only
            split
            · dsimp only; omega
            · split
              · rename_i hp
                have h3 := An0 (As7 hp).1
                have h4 := Aw3 hf
                have h5 : h.size = sizeL (fun x => x.length) h.Reads + sizeL TWrite.size h.Writes := rfl
                unfold doneS phi; dsimp only; rw [htl]; omega
              · dsimp only; omega
        · unfold doneS phi; dsimp only; rw [htl]; omega
theorem phi_step (s : TState) (r : TRec) : phi (stepS s r) ≤ phi s + 3 * (1 + r.size) + 1 := by
  unfold stepS
  split
  · exact BA7 s r
  · omega
theorem AC2 {m : Nat} : ∀ {l : List TRec} {s : TState}, (∀ r ∈ l, r.size ≤ m) → phi (stFrom s l) ≤ phi s + l.length * (3 * (1 + m) + 1)
  | [], s, _ => by simp [stFrom]
  | r :: l, s, h => by
    have h1 := phi_step s r
    have h2 := AC2 (l := l) (s := stepS s r) fun x hx => h x (List.mem_cons_of_mem _ hx)
    have h3 := h r List.mem_cons_self
    have h4 : stFrom s (r :: l) = stFrom (stepS s r) l := rfl
    rw [h4, I5, Nat.add_mul, Nat.one_mul]
    omega
theorem Ah8 {r : TRec} (h : goodRec r = true) : r.size ≤ 400 := by
  have g := goodR h
  have h1 : sizeL (fun x : Str => x.length) r.Reads ≤ r.Reads.length * 13 := p5 fun x hx => AV7 (g.reads.2 x hx)
  have h2 : sizeL TWrite.size r.Writes ≤ r.Writes.length * 37 := p5 (f := TWrite.size) fun x hx => by
    have := g.writes.2 x hx
    have k1 := AV7 this.1
    have k2 := Au8 this.2.1
    show x.Key.length + x.Val.length ≤ 36
    omega
  have h3 : r.size = sizeL (fun x : Str => x.length) r.Reads + sizeL TWrite.size r.Writes := rfl
  have := g.reads.1
  have := g.writes.1
  omega
def zTold : TTold := ⟨0, false, 0⟩
def zHeld : THeld := ⟨0, 0, 0, [], []⟩
theorem Aw4 {l : List TTold} {n : Int} : findT l n = none ↔ hasT l n = false := by
  unfold findT hasT; rw [List.find?_eq_none, List.any_eq_false]
theorem Aw5 {s : TState} (g : GS s) {h : THeld} (hm : h ∈ s.Held) : 1 ≤ h.Time ∧ h.Time ≤ 100000 ∧ adj wLess h.Writes = true := by
  obtain ⟨g1, g2, g3⟩ := g.good h hm
  have h1 := g1
  unfold goodRec hRec at h1
  rw [if_pos rfl] at h1
  unfold good1 isTime within at h1
  simp only [Bool.and_eq_true, decide_eq_true_eq] at h1
  exact ⟨by omega, by omega, AT3 g1⟩
end Go.M
namespace Go.Proofs.YtkegepoihkhihaaGreat
open Go Go.AV Go.M
attribute [local irreducible] OpW OpA OpS AWP FSpec ESpec GSpec OpE RetOk RetOkG RvDen Le Ev GuardIs SrcIs Int.tmod Int.tdiv IntKind.wrap
end Go.Proofs.YtkegepoihkhihaaGreat

namespace Go.M
open Go.AV
end Go.M
namespace Go.Proofs.YtkegepoihkhihaaGreat
open Go Go.AV Go.M
attribute [local irreducible] OpW OpA OpS AWP FSpec ESpec GSpec OpE RetOk RetOkG RvDen Le Ev GuardIs SrcIs Int.tmod Int.tdiv IntKind.wrap
end Go.Proofs.YtkegepoihkhihaaGreat

namespace Go.Proofs.YtkegepoihkhihaaGreat
open Go Go.AV Go.M
attribute [local irreducible] OpW OpA OpS AWP FSpec ESpec GSpec OpE RetOk RetOkG RvDen Le Ev GuardIs SrcIs Int.tmod Int.tdiv IntKind.wrap
theorem AA7 (l : List Str) (hl : l.length ≤ 4194304) : GSpec Tryz.prog 202 [strs l] [] (fun _ : Value => True) (fun v => [.arr v 9 1 (l.map fun s => [AV.str s])]) (fun v => AV.is v) := by
 refine I9 Tryz.func202 rfl Tryz.ntmps202 rfl ?_
 refine A3 (A2 ?_)
 refine A1 rfl (B7 rfl M4) ?_
 refine A4 (A3 (A2 ?_))
 refine U3 rfl rfl rfl rfl E7 E5 ?_
 intro v3
 refine A5 rfl ?_
 refine N3 (by' := 16) 0 rfl rfl rfl rfl E7 Tryz.type9 rfl rfl rfl rfl rfl rfl (A0 rfl) (A0 rfl) rfl (by simp only [L6, A9]; omega) ?_
 intro v5_1
 refine B5 rfl ?_
 refine A4 ?_
 refine C5 ?_
 exact M3 [0] v5_1 (trivial) rfl (by rfl) (P7 rfl (B8 rfl (by rfl)))
theorem AI7 (v : Value) (l : List Str) (s : Str) (hs : SrtS l) (hl : l.length ≤ 1000000) : GSpec Tryz.prog 169 [AV.is v, AV.str s] [.arr v 9 1 (l.map fun s => [AV.str s])] (fun _ : Value => True) (fun v' => [.arr v' 9 1 ((putS l s).map fun s => [AV.str s])]) (fun v' => AV.is v') := by
 refine I9 Tryz.func169 rfl Tryz.ntmps169 rfl ?_
 refine A3 (A2 ?_)
 refine A1 rfl (B7 rfl M4) ?_
 refine A4 (A3 (A2 ?_))
 refine A5 rfl ?_
 refine A1 rfl (V8 0 rfl E7 (A0 rfl) rfl) ?_
 refine B5 rfl ?_
 refine A4 (A3 (D1 ?_))
 refine J6 [(0, _), (1, _), (4, _)] _ (fun (k : Nat) => k ≤ l.length ∧ ∀ i y, k ≤ i → l[i]? = some y → Op.bytesLess s y = true) (fun (k : Nat) => []) (fun (k : Nat) => [(5, AV.int k)]) (fun (k : Nat) => k) (l.length) ?_ (K0 ⟨congrArg (fun z => some (AV.int z)) (by rw [A9]), rfl, rfl, rfl, trivial⟩) ?_
 ·exact ⟨Nat.le_refl _, fun i y h1 h2 => by (have := (List.getElem?_eq_some_iff.1 h2).1; omega)⟩
 intro k hinv
 obtain ⟨y, hy0⟩ : ∃ y, 0 < k → l[k - 1]? = some y := by (by_cases h9 : 0 < k; (have h8 := hinv.1; exact ⟨_, fun _ => List.getElem?_eq_getElem (show k - 1 < l.length by omega)⟩); exact ⟨[], fun h8 => absurd h8 h9⟩)
 refine A3 (A3 (A2 ?_))
 refine A5 rfl ?_
 refine A1 rfl (O8 rfl (A0 rfl) B6) ?_
 refine A5 rfl ?_
 refine D0 rfl (fun hc => B9 rfl (A0 rfl)) ?_
 refine D0 rfl (fun hc => B9 rfl (A0 rfl)) ?_
 refine D0 rfl (fun hc => P9 rfl (A6 rfl hc) B6 (by first | omega | ((try simp only [C9, A8, szR] at *); omega) | (have hc2 := hc; simp only [P4, beq_iff_eq, bne_iff_ne, A9, E4] at hc2; omega))) ?_
 refine D0 rfl (fun hc => U2 0 rfl E7 E5 (A6 rfl hc) rfl (A6 rfl hc) (by have := of_decide_eq_true hc; omega) (by have := of_decide_eq_true hc; have := hinv.1; simp only [A9]; omega)) ?_
 refine D0 rfl (fun hc => n9 0 rfl (A6 rfl hc) rfl F7 (AC1 (hy0 (by have := of_decide_eq_true hc; omega)) (by have := of_decide_eq_true hc; omega))) ?_
 refine D0 rfl (fun hc => B9 rfl (A0 rfl)) ?_
 refine D0 rfl (fun hc => Aj4 rfl (A6 rfl hc) (A6 rfl hc)) ?_
 refine A1 rfl (I1 rfl (A0 rfl) (F9 rfl)) ?_
 refine A4 ?_
 refine C4 (A0 rfl) ?_ ?_
 ·intro h19
  have hkt : 0 < k ∧ Op.bytesLess s y = true := by (rw [As3] at h19; simpa using h19)
  refine C8 (D1 (A2 ?_))
  refine A5 rfl ?_
  refine A1 rfl (P9 rfl (A0 rfl) B6 (by first | omega | (simp only [C9, A8, szR] at *; omega))) ?_
  refine B5 rfl ?_
  refine A4 ?_
  refine k0 ?_
  refine L9 k (k - 1) ?_ ?_ (K0 ⟨congrArg (fun z => some (AV.int z)) (by omega), rfl, rfl, rfl, trivial⟩)
  ·exact ⟨by omega, fun i z hi hz => if e : k ≤ i then hinv.2 i z e hz else (by have e2 : i = k - 1 := (by omega); subst e2; rw [hy0 hkt.1] at hz; injection hz with hz; subst hz; exact hkt.2)⟩
  omega
 intro h19
 have hng : 0 < k → Op.bytesLess s y = false := fun h => by (rw [As3] at h19; simpa [h] using h19)
 refine G9 ?_
 refine A3 (A3 (A2 ?_))
 refine A5 rfl ?_
 refine A1 rfl (O8 rfl (A0 rfl) B6) ?_
 refine A5 rfl ?_
 refine D0 rfl (fun hc => B9 rfl (A0 rfl)) ?_
 refine D0 rfl (fun hc => B9 rfl (A0 rfl)) ?_
 refine D0 rfl (fun hc => P9 rfl (A6 rfl hc) B6 (by first | omega | ((try simp only [C9, A8, szR] at *); omega) | (have hc2 := hc; simp only [P4, beq_iff_eq, bne_iff_ne, A9, E4] at hc2; omega))) ?_
 refine D0 rfl (fun hc => U2 0 rfl E7 E5 (A6 rfl hc) rfl (A6 rfl hc) (by have := of_decide_eq_true hc; omega) (by have := of_decide_eq_true hc; have := hinv.1; simp only [A9]; omega)) ?_
 refine D0 rfl (fun hc => n9 0 rfl (A6 rfl hc) rfl F7 (AC1 (hy0 (by have := of_decide_eq_true hc; omega)) (by have := of_decide_eq_true hc; omega))) ?_
 refine D0 rfl (fun hc => B9 rfl (A0 rfl)) ?_
 refine D0 rfl (fun hc => w7 rfl (A6 rfl hc) (A6 rfl hc)) ?_
 refine A1 rfl (I1 rfl (A0 rfl) (F9 rfl)) ?_
 refine A4 ?_
 refine C4 (A0 rfl) ?_ ?_
 ·intro h32
  have hke : 0 < k ∧ y = s := by simpa using h32
  rw [AV8 hs (by rw [← hke.2]; exact hy0 hke.1)]
  refine A3 (A2 ?_)
  refine A5 rfl ?_
  refine B5 rfl ?_
  refine A4 ?_
  refine C5 ?_
  exact M3 [0] v (trivial) rfl (by first | rfl | exact congrArg (fun z => [Own.arr _ 9 1 z]) (by show List.map (fun s => [AV.str s]) (l.take k ++ s :: l.drop k) = (List.map (fun s => [AV.str s]) (l.take k) ++ [[AV.str s]]) ++ List.map (fun s => [AV.str s]) (l.drop k); simp)) (P7 rfl (B8 rfl (by rfl)))
 intro h32
 have hne : 0 < k → y ≠ s := fun h e => by simp [h, e] at h32
 rw [Ac9 hs hinv.1 hinv.2 (fun z hz hzz => by rw [hy0 hz] at hzz; injection hzz with hzz; subst hzz; exact ⟨hng hz, hne hz⟩)]
 refine C8 (A3 (A2 ?_))
 refine A5 rfl ?_
 refine A5 rfl ?_
 refine A1 rfl (AV1 0 rfl E7 E5 (A0 rfl) rfl (A0 rfl) (by omega) (by simp only [A9]; omega)) ?_
 refine AC9 [] rfl rfl rfl rfl Tryz.call202 rfl (AA7 (l.drop k) (by rw [List.length_drop]; omega)) rfl (P3 (q6 (A0 rfl) (lt_tailm (G2 (i := 0) rfl) (by omega) (by omega))) X3) (by first | exact M0 | (intro _; exact M0) | (intro _; first | exact F6 _ | exact D8 _ _ | exact D5 _ | exact D9 _ | exact E3) | (intro _; refine Z2 ?_; (repeat (first | exact D6 | (refine C1 (by first | (first | exact F6 _ | exact D8 _ _ | exact D5 _ | exact D9 _ | exact E3) | (refine U0 ?_; (repeat (first | exact D6 | (refine C1 (by first | exact F6 _ | exact D8 _ _ | exact D5 _ | exact D9 _ | exact E3) ?_))))) ?_))); done) | (intro _; refine U0 ?_; (repeat (first | exact D6 | (refine C1 (by first | exact F6 _ | exact D8 _ _ | exact D5 _ | exact D9 _ | exact E3) ?_))); done) | ((repeat (first | exact M0 | (refine K6 (S8 ?_) ?_; (repeat (first | exact D6 | (refine C1 (by first | exact F6 _ | exact D8 _ _ | exact D5 _ | exact D9 _ | exact E3) ?_)))) | (refine K6 (R6 ?_) ?_; (repeat (first | exact S9 | (refine S2 (fun _ => ?_); (first | exact TWrite.flat _ | exact TFeedItem.flat _ | exact TIdx.flat _ | exact TVer.flat _ | (repeat (first | exact D6 | (refine C1 (by first | exact F6 _ | exact D8 _ _ | exact D5 _ | exact D9 _ | exact E3) ?_))))) | (refine T1 ?_; (first | exact TWrite.flat _ | exact TFeedItem.flat _ | exact TIdx.flat _ | exact TVer.flat _ | (repeat (first | exact D6 | (refine C1 (by first | exact F6 _ | exact D8 _ _ | exact D5 _ | exact D9 _ | exact E3) ?_))))) | (refine Q6 ?_ ?_; (first | exact TWrite.flat _ | exact TFeedItem.flat _ | exact TIdx.flat _ | exact TVer.flat _ | (repeat (first | exact D6 | (refine C1 (by first | exact F6 _ | exact D8 _ _ | exact D5 _ | exact D9 _ | exact E3) ?_))))) | refine T0 ?_ ?_))))); done) | (intro _; (repeat (first | exact M0 | (refine K6 (S8 ?_) ?_; (repeat (first | exact D6 | (refine C1 (by first | exact F6 _ | exact D8 _ _ | exact D5 _ | exact D9 _ | exact E3) ?_)))) | (refine K6 (R6 ?_) ?_; (repeat (first | exact S9 | (refine S2 (fun _ => ?_); (first | exact TWrite.flat _ | exact TFeedItem.flat _ | exact TIdx.flat _ | exact TVer.flat _ | (repeat (first | exact D6 | (refine C1 (by first | exact F6 _ | exact D8 _ _ | exact D5 _ | exact D9 _ | exact E3) ?_))))) | (refine T1 ?_; (first | exact TWrite.flat _ | exact TFeedItem.flat _ | exact TIdx.flat _ | exact TVer.flat _ | (repeat (first | exact D6 | (refine C1 (by first | exact F6 _ | exact D8 _ _ | exact D5 _ | exact D9 _ | exact E3) ?_))))) | (refine Q6 ?_ ?_; (first | exact TWrite.flat _ | exact TFeedItem.flat _ | exact TIdx.flat _ | exact TVer.flat _ | (repeat (first | exact D6 | (refine C1 (by first | exact F6 _ | exact D8 _ _ | exact D5 _ | exact D9 _ | exact E3) ?_))))) | refine T0 ?_ ?_))))); done)) (by first | exact M0 | (intro _; exact M0) | (intro _; first | exact F6 _ | exact D8 _ _ | exact D5 _ | exact D9 _ | exact E3) | (intro _; refine Z2 ?_; (repeat (first | exact D6 | (refine C1 (by first | (first | exact F6 _ | exact D8 _ _ | exact D5 _ | exact D9 _ | exact E3) | (refine U0 ?_; (repeat (first | exact D6 | (refine C1 (by first | exact F6 _ | exact D8 _ _ | exact D5 _ | exact D9 _ | exact E3) ?_))))) ?_))); done) | (intro _; refine U0 ?_; (repeat (first | exact D6 | (refine C1 (by first | exact F6 _ | exact D8 _ _ | exact D5 _ | exact D9 _ | exact E3) ?_))); done) | ((repeat (first | exact M0 | (refine K6 (S8 ?_) ?_; (repeat (first | exact D6 | (refine C1 (by first | exact F6 _ | exact D8 _ _ | exact D5 _ | exact D9 _ | exact E3) ?_)))) | (refine K6 (R6 ?_) ?_; (repeat (first | exact S9 | (refine S2 (fun _ => ?_); (first | exact TWrite.flat _ | exact TFeedItem.flat _ | exact TIdx.flat _ | exact TVer.flat _ | (repeat (first | exact D6 | (refine C1 (by first | exact F6 _ | exact D8 _ _ | exact D5 _ | exact D9 _ | exact E3) ?_))))) | (refine T1 ?_; (first | exact TWrite.flat _ | exact TFeedItem.flat _ | exact TIdx.flat _ | exact TVer.flat _ | (repeat (first | exact D6 | (refine C1 (by first | exact F6 _ | exact D8 _ _ | exact D5 _ | exact D9 _ | exact E3) ?_))))) | (refine Q6 ?_ ?_; (first | exact TWrite.flat _ | exact TFeedItem.flat _ | exact TIdx.flat _ | exact TVer.flat _ | (repeat (first | exact D6 | (refine C1 (by first | exact F6 _ | exact D8 _ _ | exact D5 _ | exact D9 _ | exact E3) ?_))))) | refine T0 ?_ ?_))))); done) | (intro _; (repeat (first | exact M0 | (refine K6 (S8 ?_) ?_; (repeat (first | exact D6 | (refine C1 (by first | exact F6 _ | exact D8 _ _ | exact D5 _ | exact D9 _ | exact E3) ?_)))) | (refine K6 (R6 ?_) ?_; (repeat (first | exact S9 | (refine S2 (fun _ => ?_); (first | exact TWrite.flat _ | exact TFeedItem.flat _ | exact TIdx.flat _ | exact TVer.flat _ | (repeat (first | exact D6 | (refine C1 (by first | exact F6 _ | exact D8 _ _ | exact D5 _ | exact D9 _ | exact E3) ?_))))) | (refine T1 ?_; (first | exact TWrite.flat _ | exact TFeedItem.flat _ | exact TIdx.flat _ | exact TVer.flat _ | (repeat (first | exact D6 | (refine C1 (by first | exact F6 _ | exact D8 _ _ | exact D5 _ | exact D9 _ | exact E3) ?_))))) | (refine Q6 ?_ ?_; (first | exact TWrite.flat _ | exact TFeedItem.flat _ | exact TIdx.flat _ | exact TVer.flat _ | (repeat (first | exact D6 | (refine C1 (by first | exact F6 _ | exact D8 _ _ | exact D5 _ | exact D9 _ | exact E3) ?_))))) | refine T0 ?_ ?_))))); done)) (by first | exact M0 | (intro _; exact M0) | (intro _; first | exact F6 _ | exact D8 _ _ | exact D5 _ | exact D9 _ | exact E3) | (intro _; refine Z2 ?_; (repeat (first | exact D6 | (refine C1 (by first | (first | exact F6 _ | exact D8 _ _ | exact D5 _ | exact D9 _ | exact E3) | (refine U0 ?_; (repeat (first | exact D6 | (refine C1 (by first | exact F6 _ | exact D8 _ _ | exact D5 _ | exact D9 _ | exact E3) ?_))))) ?_))); done) | (intro _; refine U0 ?_; (repeat (first | exact D6 | (refine C1 (by first | exact F6 _ | exact D8 _ _ | exact D5 _ | exact D9 _ | exact E3) ?_))); done) | ((repeat (first | exact M0 | (refine K6 (S8 ?_) ?_; (repeat (first | exact D6 | (refine C1 (by first | exact F6 _ | exact D8 _ _ | exact D5 _ | exact D9 _ | exact E3) ?_)))) | (refine K6 (R6 ?_) ?_; (repeat (first | exact S9 | (refine S2 (fun _ => ?_); (first | exact TWrite.flat _ | exact TFeedItem.flat _ | exact TIdx.flat _ | exact TVer.flat _ | (repeat (first | exact D6 | (refine C1 (by first | exact F6 _ | exact D8 _ _ | exact D5 _ | exact D9 _ | exact E3) ?_))))) | (refine T1 ?_; (first | exact TWrite.flat _ | exact TFeedItem.flat _ | exact TIdx.flat _ | exact TVer.flat _ | (repeat (first | exact D6 | (refine C1 (by first | exact F6 _ | exact D8 _ _ | exact D5 _ | exact D9 _ | exact E3) ?_))))) | (refine Q6 ?_ ?_; (first | exact TWrite.flat _ | exact TFeedItem.flat _ | exact TIdx.flat _ | exact TVer.flat _ | (repeat (first | exact D6 | (refine C1 (by first | exact F6 _ | exact D8 _ _ | exact D5 _ | exact D9 _ | exact E3) ?_))))) | refine T0 ?_ ?_))))); done) | (intro _; (repeat (first | exact M0 | (refine K6 (S8 ?_) ?_; (repeat (first | exact D6 | (refine C1 (by first | exact F6 _ | exact D8 _ _ | exact D5 _ | exact D9 _ | exact E3) ?_)))) | (refine K6 (R6 ?_) ?_; (repeat (first | exact S9 | (refine S2 (fun _ => ?_); (first | exact TWrite.flat _ | exact TFeedItem.flat _ | exact TIdx.flat _ | exact TVer.flat _ | (repeat (first | exact D6 | (refine C1 (by first | exact F6 _ | exact D8 _ _ | exact D5 _ | exact D9 _ | exact E3) ?_))))) | (refine T1 ?_; (first | exact TWrite.flat _ | exact TFeedItem.flat _ | exact TIdx.flat _ | exact TVer.flat _ | (repeat (first | exact D6 | (refine C1 (by first | exact F6 _ | exact D8 _ _ | exact D5 _ | exact D9 _ | exact E3) ?_))))) | (refine Q6 ?_ ?_; (first | exact TWrite.flat _ | exact TFeedItem.flat _ | exact TIdx.flat _ | exact TVer.flat _ | (repeat (first | exact D6 | (refine C1 (by first | exact F6 _ | exact D8 _ _ | exact D5 _ | exact D9 _ | exact E3) ?_))))) | refine T0 ?_ ?_))))); done)) ?_
 intro x37 ok37
 refine B5 rfl ?_
 refine A4 (A3 ?_)
 refine AWP.le (Z3 [0] 6 rfl rfl (N8 (G2 (i := 0) rfl) J7) (T6 0 rfl rfl Q1)) ?_
 refine A2 ?_
 refine A5 rfl ?_
 refine A5 rfl ?_
 refine sq_ahi 0 rfl rfl rfl rfl E7 E5 (A0 rfl) rfl (A0 rfl) (by omega) (by simp only [A9]; omega) ?_
 intro v40_1
 rw [Int.toNat_natCast, ← List.map_take]
 refine AC9 [] rfl rfl rfl rfl Tryz.call202 rfl (AA7 (l.take k) (by rw [E4]; omega)) rfl (P3 (Ar5 0 (A0 rfl) rfl) X3) (by first | exact M0 | (intro _; exact M0) | (intro _; first | exact F6 _ | exact D8 _ _ | exact D5 _ | exact D9 _ | exact E3) | (intro _; refine Z2 ?_; (repeat (first | exact D6 | (refine C1 (by first | (first | exact F6 _ | exact D8 _ _ | exact D5 _ | exact D9 _ | exact E3) | (refine U0 ?_; (repeat (first | exact D6 | (refine C1 (by first | exact F6 _ | exact D8 _ _ | exact D5 _ | exact D9 _ | exact E3) ?_))))) ?_))); done) | (intro _; refine U0 ?_; (repeat (first | exact D6 | (refine C1 (by first | exact F6 _ | exact D8 _ _ | exact D5 _ | exact D9 _ | exact E3) ?_))); done) | ((repeat (first | exact M0 | (refine K6 (S8 ?_) ?_; (repeat (first | exact D6 | (refine C1 (by first | exact F6 _ | exact D8 _ _ | exact D5 _ | exact D9 _ | exact E3) ?_)))) | (refine K6 (R6 ?_) ?_; (repeat (first | exact S9 | (refine S2 (fun _ => ?_); (first | exact TWrite.flat _ | exact TFeedItem.flat _ | exact TIdx.flat _ | exact TVer.flat _ | (repeat (first | exact D6 | (refine C1 (by first | exact F6 _ | exact D8 _ _ | exact D5 _ | exact D9 _ | exact E3) ?_))))) | (refine T1 ?_; (first | exact TWrite.flat _ | exact TFeedItem.flat _ | exact TIdx.flat _ | exact TVer.flat _ | (repeat (first | exact D6 | (refine C1 (by first | exact F6 _ | exact D8 _ _ | exact D5 _ | exact D9 _ | exact E3) ?_))))) | (refine Q6 ?_ ?_; (first | exact TWrite.flat _ | exact TFeedItem.flat _ | exact TIdx.flat _ | exact TVer.flat _ | (repeat (first | exact D6 | (refine C1 (by first | exact F6 _ | exact D8 _ _ | exact D5 _ | exact D9 _ | exact E3) ?_))))) | refine T0 ?_ ?_))))); done) | (intro _; (repeat (first | exact M0 | (refine K6 (S8 ?_) ?_; (repeat (first | exact D6 | (refine C1 (by first | exact F6 _ | exact D8 _ _ | exact D5 _ | exact D9 _ | exact E3) ?_)))) | (refine K6 (R6 ?_) ?_; (repeat (first | exact S9 | (refine S2 (fun _ => ?_); (first | exact TWrite.flat _ | exact TFeedItem.flat _ | exact TIdx.flat _ | exact TVer.flat _ | (repeat (first | exact D6 | (refine C1 (by first | exact F6 _ | exact D8 _ _ | exact D5 _ | exact D9 _ | exact E3) ?_))))) | (refine T1 ?_; (first | exact TWrite.flat _ | exact TFeedItem.flat _ | exact TIdx.flat _ | exact TVer.flat _ | (repeat (first | exact D6 | (refine C1 (by first | exact F6 _ | exact D8 _ _ | exact D5 _ | exact D9 _ | exact E3) ?_))))) | (refine Q6 ?_ ?_; (first | exact TWrite.flat _ | exact TFeedItem.flat _ | exact TIdx.flat _ | exact TVer.flat _ | (repeat (first | exact D6 | (refine C1 (by first | exact F6 _ | exact D8 _ _ | exact D5 _ | exact D9 _ | exact E3) ?_))))) | refine T0 ?_ ?_))))); done)) (by first | exact M0 | (intro _; exact M0) | (intro _; first | exact F6 _ | exact D8 _ _ | exact D5 _ | exact D9 _ | exact E3) | (intro _; refine Z2 ?_; (repeat (first | exact D6 | (refine C1 (by first | (first | exact F6 _ | exact D8 _ _ | exact D5 _ | exact D9 _ | exact E3) | (refine U0 ?_; (repeat (first | exact D6 | (refine C1 (by first | exact F6 _ | exact D8 _ _ | exact D5 _ | exact D9 _ | exact E3) ?_))))) ?_))); done) | (intro _; refine U0 ?_; (repeat (first | exact D6 | (refine C1 (by first | exact F6 _ | exact D8 _ _ | exact D5 _ | exact D9 _ | exact E3) ?_))); done) | ((repeat (first | exact M0 | (refine K6 (S8 ?_) ?_; (repeat (first | exact D6 | (refine C1 (by first | exact F6 _ | exact D8 _ _ | exact D5 _ | exact D9 _ | exact E3) ?_)))) | (refine K6 (R6 ?_) ?_; (repeat (first | exact S9 | (refine S2 (fun _ => ?_); (first | exact TWrite.flat _ | exact TFeedItem.flat _ | exact TIdx.flat _ | exact TVer.flat _ | (repeat (first | exact D6 | (refine C1 (by first | exact F6 _ | exact D8 _ _ | exact D5 _ | exact D9 _ | exact E3) ?_))))) | (refine T1 ?_; (first | exact TWrite.flat _ | exact TFeedItem.flat _ | exact TIdx.flat _ | exact TVer.flat _ | (repeat (first | exact D6 | (refine C1 (by first | exact F6 _ | exact D8 _ _ | exact D5 _ | exact D9 _ | exact E3) ?_))))) | (refine Q6 ?_ ?_; (first | exact TWrite.flat _ | exact TFeedItem.flat _ | exact TIdx.flat _ | exact TVer.flat _ | (repeat (first | exact D6 | (refine C1 (by first | exact F6 _ | exact D8 _ _ | exact D5 _ | exact D9 _ | exact E3) ?_))))) | refine T0 ?_ ?_))))); done) | (intro _; (repeat (first | exact M0 | (refine K6 (S8 ?_) ?_; (repeat (first | exact D6 | (refine C1 (by first | exact F6 _ | exact D8 _ _ | exact D5 _ | exact D9 _ | exact E3) ?_)))) | (refine K6 (R6 ?_) ?_; (repeat (first | exact S9 | (refine S2 (fun _ => ?_); (first | exact TWrite.flat _ | exact TFeedItem.flat _ | exact TIdx.flat _ | exact TVer.flat _ | (repeat (first | exact D6 | (refine C1 (by first | exact F6 _ | exact D8 _ _ | exact D5 _ | exact D9 _ | exact E3) ?_))))) | (refine T1 ?_; (first | exact TWrite.flat _ | exact TFeedItem.flat _ | exact TIdx.flat _ | exact TVer.flat _ | (repeat (first | exact D6 | (refine C1 (by first | exact F6 _ | exact D8 _ _ | exact D5 _ | exact D9 _ | exact E3) ?_))))) | (refine Q6 ?_ ?_; (first | exact TWrite.flat _ | exact TFeedItem.flat _ | exact TIdx.flat _ | exact TVer.flat _ | (repeat (first | exact D6 | (refine C1 (by first | exact F6 _ | exact D8 _ _ | exact D5 _ | exact D9 _ | exact E3) ?_))))) | refine T0 ?_ ?_))))); done)) (by first | exact M0 | (intro _; exact M0) | (intro _; first | exact F6 _ | exact D8 _ _ | exact D5 _ | exact D9 _ | exact E3) | (intro _; refine Z2 ?_; (repeat (first | exact D6 | (refine C1 (by first | (first | exact F6 _ | exact D8 _ _ | exact D5 _ | exact D9 _ | exact E3) | (refine U0 ?_; (repeat (first | exact D6 | (refine C1 (by first | exact F6 _ | exact D8 _ _ | exact D5 _ | exact D9 _ | exact E3) ?_))))) ?_))); done) | (intro _; refine U0 ?_; (repeat (first | exact D6 | (refine C1 (by first | exact F6 _ | exact D8 _ _ | exact D5 _ | exact D9 _ | exact E3) ?_))); done) | ((repeat (first | exact M0 | (refine K6 (S8 ?_) ?_; (repeat (first | exact D6 | (refine C1 (by first | exact F6 _ | exact D8 _ _ | exact D5 _ | exact D9 _ | exact E3) ?_)))) | (refine K6 (R6 ?_) ?_; (repeat (first | exact S9 | (refine S2 (fun _ => ?_); (first | exact TWrite.flat _ | exact TFeedItem.flat _ | exact TIdx.flat _ | exact TVer.flat _ | (repeat (first | exact D6 | (refine C1 (by first | exact F6 _ | exact D8 _ _ | exact D5 _ | exact D9 _ | exact E3) ?_))))) | (refine T1 ?_; (first | exact TWrite.flat _ | exact TFeedItem.flat _ | exact TIdx.flat _ | exact TVer.flat _ | (repeat (first | exact D6 | (refine C1 (by first | exact F6 _ | exact D8 _ _ | exact D5 _ | exact D9 _ | exact E3) ?_))))) | (refine Q6 ?_ ?_; (first | exact TWrite.flat _ | exact TFeedItem.flat _ | exact TIdx.flat _ | exact TVer.flat _ | (repeat (first | exact D6 | (refine C1 (by first | exact F6 _ | exact D8 _ _ | exact D5 _ | exact D9 _ | exact E3) ?_))))) | refine T0 ?_ ?_))))); done) | (intro _; (repeat (first | exact M0 | (refine K6 (S8 ?_) ?_; (repeat (first | exact D6 | (refine C1 (by first | exact F6 _ | exact D8 _ _ | exact D5 _ | exact D9 _ | exact E3) ?_)))) | (refine K6 (R6 ?_) ?_; (repeat (first | exact S9 | (refine S2 (fun _ => ?_); (first | exact TWrite.flat _ | exact TFeedItem.flat _ | exact TIdx.flat _ | exact TVer.flat _ | (repeat (first | exact D6 | (refine C1 (by first | exact F6 _ | exact D8 _ _ | exact D5 _ | exact D9 _ | exact E3) ?_))))) | (refine T1 ?_; (first | exact TWrite.flat _ | exact TFeedItem.flat _ | exact TIdx.flat _ | exact TVer.flat _ | (repeat (first | exact D6 | (refine C1 (by first | exact F6 _ | exact D8 _ _ | exact D5 _ | exact D9 _ | exact E3) ?_))))) | (refine Q6 ?_ ?_; (first | exact TWrite.flat _ | exact TFeedItem.flat _ | exact TIdx.flat _ | exact TVer.flat _ | (repeat (first | exact D6 | (refine C1 (by first | exact F6 _ | exact D8 _ _ | exact D5 _ | exact D9 _ | exact E3) ?_))))) | refine T0 ?_ ?_))))); done)) ?_
 intro x41 ok41
 refine A5 rfl ?_
 refine A1 rfl (L2 rfl E7 E5 Tryz.zeroValue9 rfl rfl rfl rfl (D3 (A0 rfl) (O5 _) I2) rfl rfl) ?_
 refine N3 (by' := 16) 0 rfl rfl rfl rfl E7 Tryz.type9 rfl rfl rfl rfl rfl rfl (A0 rfl) (A0 rfl) rfl (by simp only [A9, E4, A8]; omega) ?_
 intro v44_2
 refine A5 rfl ?_
 refine N3 (by' := 16) 0 rfl rfl rfl rfl E7 Tryz.type9 rfl rfl rfl rfl rfl rfl (A0 rfl) (A0 rfl) rfl (by simp only [A9, E4, List.length_drop, H5, A8]; omega) ?_
 intro v46_3
 refine B5 rfl ?_
 refine A4 ?_
 refine C5 ?_
 exact M3 [0] v46_3 (trivial) rfl (by first | rfl | exact congrArg (fun z => [Own.arr _ 9 1 z]) (by show List.map (fun s => [AV.str s]) (l.take k ++ s :: l.drop k) = (List.map (fun s => [AV.str s]) (l.take k) ++ [[AV.str s]]) ++ List.map (fun s => [AV.str s]) (l.drop k); simp)) (P7 rfl (B8 rfl (by rfl)))
end Go.Proofs.YtkegepoihkhihaaGreat

namespace Go.M
open Go.AV
theorem fullC_at {l : List TCell} {k : Str} {c : TCell} (hc : ¬ atC l k < 0 → findC l k = some c) : fullC l k = (decide ((0 : Int) ≤ atC l k) && decide ((16 : Int) ≤ (c.Vers.length : Int))) := by
  unfold fullC
  by_cases h : atC l k < 0
  · rw [As4 h, decide_eq_false (by omega)]; rfl
  · rw [hc h, decide_eq_true (by omega), Bool.true_and]
    dsimp only
    rw [decide_eq_decide]; omega
theorem at_some (l : List TCell) (k : Str) : ∃ c : TCell, ¬ atC l k < 0 → (∃ p : Nat, atC l k = (p : Int) ∧ l[p]? = some c) ∧ findC l k = some c := by
  by_cases h : atC l k < 0
  · exact ⟨⟨[], []⟩, fun k => absurd h k⟩
  · obtain ⟨p, c, h1, h2, h3⟩ := As5 h
    exact ⟨c, fun _ => ⟨⟨p, h1, h2⟩, h3⟩⟩
theorem AA8 {s : TState} {i : Nat} {h y : THeld} (hx : s.Held[i]? = some h) (hy : s.Held[i - 1]? = some y) : heldAt s i = (!((!l4Good (hRec h) || decide (s.Floor < h.Time)) || (decide ((0 : Int) < (i : Int)) && decide (h.Txn ≤ y.Txn))) && ((s.Held.take i).all (fun g => apart g h.Reads h.Writes) && h.Writes.all fun w => decide (lastTime s.Cells w.Key < h.Time))) := by
  rw [y7 hx hy, AH8]
  have h2 : ((s.Held.take i).all fun g => apart g h.Reads h.Writes) = !((s.Held.take i).any fun g => clash h g) := by
    rw [List.not_any_eq_all_not]; congr 1; funext g; rw [AQ0, Bool.not_not]
  have h3 : (h.Writes.all fun w => decide (lastTime s.Cells w.Key < h.Time)) = !(h.Writes.any fun w => decide (h.Time ≤ lastTime s.Cells w.Key)) := by
    rw [List.not_any_eq_all_not]; congr 1; funext w; rw [← decide_not, decide_eq_decide]; omega
  rw [h2, h3]
theorem AI8 {s : TState} {i : Nat} {t y : TTold} (hx : s.Told[i]? = some t) (hy : s.Told[i - 1]? = some y) : toldAt s i = (!((((!within t.Txn 1 60 || (decide ((0 : Int) < (i : Int)) && decide (t.Txn ≤ y.Txn))) || (t.Yes && !within t.Time 1 s.Floor)) || (!t.Yes && (t.Time != 0)))) && !hasH s.Held t.Txn) := by
  rw [AD6 hx hy]
  congr 2
  show ((!within t.Txn 1 60 || _) || _) = _
  have e : (!((t.Yes && within t.Time 1 s.Floor) || (!t.Yes && (t.Time == 0)))) = ((t.Yes && !within t.Time 1 s.Floor) || (!t.Yes && (t.Time != 0))) := by
    show _ = ((t.Yes && !within t.Time 1 s.Floor) || (!t.Yes && !(t.Time == 0)))
    cases t.Yes <;> simp
  rw [e]
  cases within t.Txn 1 60 <;> cases (decide ((0 : Int) < (i : Int)) && decide (t.Txn ≤ y.Txn)) <;> cases (t.Yes && !within t.Time 1 s.Floor) <;> cases (!t.Yes && (t.Time != 0)) <;> rfl
def heldFO (l : List THeld) (n : Int) : THeld × Bool := match findH l n with | some h => (h, true) | none => (zHeld, false)
def toldFO (l : List TTold) (n : Int) : TTold × Bool := match findT l n with | some h => (h, true) | none => (zTold, false)
theorem AD7 (l : List THeld) (n : Int) : (heldFO l n).2 = hasH l n := by
  unfold heldFO
  cases h : findH l n with
  | none => exact (AI2.1 h).symm
  | some x => obtain ⟨h1, h2⟩ := AI1 h; exact (hasH_iff.2 ⟨x, h1, h2⟩).symm
theorem Af2 (l : List TTold) (n : Int) : (toldFO l n).2 = hasT l n := by
  unfold toldFO
  cases h : findT l n with
  | none => exact (Aw4.1 h).symm
  | some x =>
    unfold findT at h
    exact (hasT_iff.2 ⟨x, List.mem_of_find?_eq_some h, by simpa using List.find?_some h⟩).symm
theorem AA9 {α : Type} {p : α → Bool} : ∀ {l : List α} {i : Nat} {x : α}, l[i]? = some x → p x = true → (∀ j y, j < i → l[j]? = some y → p y = false) → l.find? p = some x
  | [], i, x, h, _, _ => by simp at h
  | y :: l, 0, x, h, hp, _ => by simp at h; subst h; rw [List.find?_cons, hp]
  | y :: l, i + 1, x, h, hp, hn => by
    rw [List.find?_cons, hn 0 y (by omega) rfl]
    exact AA9 (by simpa using h) hp fun j z hj hz => hn (j + 1) z (by omega) (by simpa using hz)
theorem AT5 {α : Type} {p : α → Bool} {l : List α} (hn : ∀ (j : Nat) (y : α), l[j]? = some y → p y = false) : l.find? p = none := by
  rw [List.find?_eq_none]
  intro x hx
  obtain ⟨j, hj⟩ := List.getElem?_of_mem hx
  rw [hn j x hj]; decide
end Go.M
namespace Go.Proofs.YtkegepoihkhihaaGreat
open Go Go.AV Go.M
attribute [local irreducible] OpW OpA OpS AWP FSpec ESpec GSpec OpE RetOk RetOkG RvDen Le Ev GuardIs SrcIs Int.tmod Int.tdiv IntKind.wrap
theorem Ah9 (h : THeld) : FSpec Tryz.prog 177 [AV.agg h.cs] (AV.agg (hRec h).cs) := by
 refine E9 Tryz.func177 rfl Tryz.ntmps177 rfl ?_
 refine A3 (A2 ?_)
 refine O3 rfl rfl rfl rfl (A0 rfl) ?_
 intro b1
 refine G3 rfl rfl rfl rfl Tryz.zeroValue104 rfl ?_
 intro b2
 refine A4 (A3 (A2 ?_))
 refine A1 rfl (B1 0 rfl F5 rfl B4 (A0 rfl) rfl) ?_
 refine A1 rfl (B0 1 rfl (A0 rfl) rfl C2 rfl) ?_
 refine A1 rfl (B1 1 rfl F5 rfl B4 (A0 rfl) rfl) ?_
 refine A1 rfl (B0 1 rfl (A0 rfl) rfl C2 rfl) ?_
 refine A1 rfl (B1 2 rfl F5 rfl B4 (A0 rfl) rfl) ?_
 refine A1 rfl (B0 1 rfl (A0 rfl) rfl C2 rfl) ?_
 refine A1 rfl (B1 3 rfl F5 rfl N0 (A0 rfl) rfl) ?_
 refine A1 rfl (B0 1 rfl (A0 rfl) rfl P1 rfl) ?_
 refine A1 rfl (B1 4 rfl F5 rfl K2 (A0 rfl) rfl) ?_
 refine A1 rfl (B0 1 rfl (A0 rfl) rfl M1 rfl) ?_
 refine A1 rfl (P0 (places := #[(0, 1), (1, 1), (2, 1), (3, 1), (4, 1), (5, 1), (6, 1)]) rfl B3 Tryz.zeroValue104 (fun w => by kernel_rfl) rfl (D3 B6 (K4 _ _) (D3 (A0 rfl) (K4 _ _) (D3 (A0 rfl) (K4 _ _) (D3 (A0 rfl) (K4 _ _) (D3 (A0 rfl) (U8 _ _) (D3 (A0 rfl) (U8 _ _) I2)))))) rfl) ?_
 refine D7 0 rfl rfl rfl (A0 rfl) (A0 rfl) (F0 _) rfl G1 rfl ?_
 refine A4 ?_
 refine C5 ?_
 exact H9 rfl (M2 (ys := _) 0 rfl rfl N1 G1 rfl)
theorem AX1 (l : List TWrite) (k : Str) : FSpec Tryz.prog 214 [AV.list 3 (l.map TWrite.cs), AV.str k] (AV.bool (hasK l k)) := by
 refine E9 Tryz.func214 rfl Tryz.ntmps214 rfl ?_
 refine U6 (t := 0) rfl fun hl => ?_
 try simp only [A9] at hl
 refine A3 (A2 ?_)
 refine A1 rfl (B7 rfl F8) ?_
 refine A4 (A3 (A3 (A2 ?_)))
 refine A5 rfl ?_
 refine A1 rfl (H2 rfl G0 (A0 rfl)) ?_
 refine A1 rfl (B9 rfl B6) ?_
 refine A4 (D1 ?_)
 refine J6 [(1, _), (7, _), (8, _)] _ (fun (i : Nat) => i ≤ l.length ∧ hasK l k = (l.drop i).any (fun w => w.Key == k)) (fun (i : Nat) => []) (fun (i : Nat) => [(9, AV.int i)]) (fun (i : Nat) => l.length - i) (0) ?_ (K0 ⟨rfl, rfl, rfl, rfl, trivial⟩) ?_
 ·exact ⟨Nat.zero_le _, rfl⟩
 intro i hinv
 refine A3 (A2 ?_)
 refine A1 rfl (K5 rfl (A0 rfl) (A0 rfl)) ?_
 refine A4 (A3 ?_)
 refine C4 (A0 rfl) ?_ ?_
 ·intro h10
  have k10 := of_decide_eq_true h10; try simp only [A9] at k10
  have hlt : i < l.length := by omega
  obtain ⟨x, hx⟩ := get_some hlt
  refine C8 (A3 (D1 (A3 (A2 ?_))))
  refine A1 rfl (J4 rfl G0 H6 (A0 rfl) (A0 rfl) hx (by first | omega | (simp only [C9, A8, szR] at *; omega))) ?_
  refine A1 rfl (L4 rfl (A0 rfl) T9 H6) ?_
  refine G3 rfl rfl rfl rfl Tryz.zeroValue101 rfl ?_
  intro b6
  refine D7 0 rfl rfl rfl (A0 rfl) (A0 rfl) (F0 _) rfl H6 rfl ?_
  refine A4 (A3 (A2 ?_))
  refine A1 rfl (B1 0 rfl H0 rfl E5 (A0 rfl) rfl) ?_
  refine A1 rfl (B0 0 rfl (A0 rfl) rfl F7 rfl) ?_
  refine A5 rfl ?_
  refine A1 rfl (w7 rfl (A0 rfl) (A0 rfl)) ?_
  refine A4 ?_
  refine C4 (A0 rfl) ?_ ?_
  ·intro h16
   refine A3 (A2 ?_)
   refine A1 rfl (B7 rfl F8) ?_
   refine A4 ?_
   refine C5 ?_
   exact H9 rfl (B8 rfl (by first | exact congrArg AV.bool (by rw [hinv.2, drop_some hx, List.any_cons, h16]; rfl) | exact congrArg AV.bool (by rw [hinv.2, List.drop_eq_nil_of_le hge]; rfl)))
  intro h16
  refine C8 (A2 ?_)
  refine A1 rfl (G7 rfl (A0 rfl) B6 (by first | omega | (simp only [C9, A8, szR] at *; omega))) ?_
  refine A5 rfl ?_
  refine A4 ?_
  refine L9 i (i + 1) ?_ ?_ (U7 1 ⟨rfl, rfl, rfl, rfl, trivial⟩)
  ·exact ⟨by omega, by rw [hinv.2, drop_some hx, List.any_cons, h16]; rfl⟩
  omega
 intro h10
 have k10 := of_decide_eq_false h10; try simp only [A9] at k10
 have hge : l.length ≤ i := by omega
 refine G9 ?_
 refine A3 (A2 ?_)
 refine A1 rfl (B7 rfl F8) ?_
 refine A4 ?_
 refine C5 ?_
 exact H9 rfl (B8 rfl (by first | exact congrArg AV.bool (by rw [hinv.2, drop_some hx, List.any_cons, h16]; rfl) | exact congrArg AV.bool (by rw [hinv.2, List.drop_eq_nil_of_le hge]; rfl)))
theorem Aw6 (l : List Str) (k : Str) : FSpec Tryz.prog 215 [strs l, AV.str k] (AV.bool (hasS l k)) := by
 refine E9 Tryz.func215 rfl Tryz.ntmps215 rfl ?_
 refine U6 (t := 0) rfl fun hl => ?_
 try simp only [A9] at hl
 refine A3 (A2 ?_)
 refine A1 rfl (B7 rfl F8) ?_
 refine A4 (A3 (A3 (A2 ?_)))
 refine A5 rfl ?_
 refine A1 rfl (H2 rfl E7 (A0 rfl)) ?_
 refine A1 rfl (B9 rfl B6) ?_
 refine A4 (D1 ?_)
 refine J6 [(1, _), (7, _), (8, _)] _ (fun (i : Nat) => i ≤ l.length ∧ hasS l k = (l.drop i).any (fun x => k == x)) (fun (i : Nat) => []) (fun (i : Nat) => [(9, AV.int i)]) (fun (i : Nat) => l.length - i) (0) ?_ (K0 ⟨rfl, rfl, rfl, rfl, trivial⟩) ?_
 ·exact ⟨Nat.zero_le _, rfl⟩
 intro i hinv
 refine A3 (A2 ?_)
 refine A1 rfl (K5 rfl (A0 rfl) (A0 rfl)) ?_
 refine A4 (A3 ?_)
 refine C4 (A0 rfl) ?_ ?_
 ·intro h10
  have k10 := of_decide_eq_true h10; try simp only [A9] at k10
  have hlt : i < l.length := by omega
  obtain ⟨x, hx⟩ := get_some hlt
  refine C8 (A3 (D1 (A3 (A2 ?_))))
  refine A1 rfl (J4 rfl E7 E5 (A0 rfl) (A0 rfl) hx (by first | omega | (simp only [C9, A8, szR] at *; omega))) ?_
  refine A1 rfl (N9 rfl (A0 rfl) F7 rfl) ?_
  refine B5 rfl ?_
  refine A4 (A3 (A2 ?_))
  refine A5 rfl ?_
  refine A5 rfl ?_
  refine A1 rfl (w7 rfl (A0 rfl) (A0 rfl)) ?_
  refine A4 ?_
  refine C4 (A0 rfl) ?_ ?_
  ·intro h15
   refine A3 (A2 ?_)
   refine A1 rfl (B7 rfl F8) ?_
   refine A4 ?_
   refine C5 ?_
   exact H9 rfl (B8 rfl (by first | exact congrArg AV.bool (by rw [hinv.2, drop_some hx, List.any_cons, show (k == x) = true from by have h9 := h15; simp at h9 ⊢; exact h9.symm]; rfl) | exact congrArg AV.bool (by rw [hinv.2, List.drop_eq_nil_of_le hge]; rfl)))
  intro h15
  refine C8 (A2 ?_)
  refine A1 rfl (G7 rfl (A0 rfl) B6 (by first | omega | (simp only [C9, A8, szR] at *; omega))) ?_
  refine A5 rfl ?_
  refine A4 ?_
  refine L9 i (i + 1) ?_ ?_ (K0 ⟨rfl, rfl, rfl, rfl, trivial⟩)
  ·exact ⟨by omega, by rw [hinv.2, drop_some hx, List.any_cons, show (k == x) = false from by have h9 := h15; simp at h9 ⊢; exact fun e => h9 e.symm]; rfl⟩
  omega
 intro h10
 have k10 := of_decide_eq_false h10; try simp only [A9] at k10
 have hge : l.length ≤ i := by omega
 refine G9 ?_
 refine A3 (A2 ?_)
 refine A1 rfl (B7 rfl F8) ?_
 refine A4 ?_
 refine C5 ?_
 exact H9 rfl (B8 rfl (by first | exact congrArg AV.bool (by rw [hinv.2, drop_some hx, List.any_cons, show (k == x) = true from by have h9 := h15; simp at h9 ⊢; exact h9.symm]; rfl) | exact congrArg AV.bool (by rw [hinv.2, List.drop_eq_nil_of_le hge]; rfl)))
theorem apart_spec (h : THeld) (rs : List Str) (ws : List TWrite) : FSpec Tryz.prog 178 [AV.agg h.cs, strs rs, AV.list 3 (ws.map TWrite.cs)] (AV.bool (apart h rs ws)) := by
 refine E9 Tryz.func178 rfl Tryz.ntmps178 rfl ?_
 refine U6 (t := 1) rfl fun hl1 => ?_
 try simp only [A9] at hl1
 refine U6 (t := 2) rfl fun hl2 => ?_
 try simp only [A9] at hl2
 refine A3 (A2 ?_)
 refine O3 rfl rfl rfl rfl (A0 rfl) ?_
 intro b3
 refine A1 rfl (B7 rfl F8) ?_
 refine A4 (A3 (A3 (A2 ?_)))
 refine A5 rfl ?_
 refine A1 rfl (H2 rfl E7 (A0 rfl)) ?_
 refine A1 rfl (B9 rfl B6) ?_
 refine A4 (D1 ?_)
 refine J6 [(2, _), (3, _), (11, _), (12, _)] _ (fun (i : Nat) => i ≤ rs.length ∧ (rs.all fun k => !hasK h.Writes k) = ((rs.drop i).all fun k => !hasK h.Writes k)) (fun (i : Nat) => []) (fun (i : Nat) => [(13, AV.int i)]) (fun (i : Nat) => rs.length - i) (0) ?_ (K0 ⟨rfl, rfl, rfl, rfl, rfl, trivial⟩) ?_
 ·exact ⟨Nat.zero_le _, rfl⟩
 intro i hinv
 refine A3 (A2 ?_)
 refine A1 rfl (K5 rfl (A0 rfl) (A0 rfl)) ?_
 refine A4 (A3 ?_)
 refine C4 (A0 rfl) ?_ ?_
 ·intro h14
  have k14 := of_decide_eq_true h14; try simp only [A9] at k14
  have hlt : i < rs.length := by omega
  obtain ⟨x, hx⟩ := get_some hlt
  refine C8 (A3 (D1 (A3 (A2 ?_))))
  refine A1 rfl (J4 rfl E7 E5 (A0 rfl) (A0 rfl) hx (by first | omega | (simp only [C9, A8, szR] at *; omega))) ?_
  refine A1 rfl (N9 rfl (A0 rfl) F7 rfl) ?_
  refine B5 rfl ?_
  refine A4 (A3 (A2 ?_))
  refine A1 rfl (B1 4 rfl F5 rfl K2 (A0 rfl) rfl) ?_
  refine A1 rfl (B0 0 rfl (A0 rfl) rfl M1 rfl) ?_
  refine A5 rfl ?_
  refine A1 rfl (E8 rfl Tryz.call214 rfl (AX1 _ _) (A7 (A0 rfl) (A7 (A0 rfl) C6))) ?_
  refine A4 ?_
  refine C4 (A0 rfl) ?_ ?_
  ·intro h20
   have hfin : apart h rs ws = false := by (unfold apart; rw [hinv.2, drop_some hx, List.all_cons, h20]; rfl)
   refine A3 (A2 ?_)
   refine A1 rfl (B7 rfl F8) ?_
   refine A4 ?_
   refine C5 ?_
   exact H9 rfl (B8 rfl (by exact congrArg AV.bool hfin.symm))
  intro h20
  refine C8 (A2 ?_)
  refine A1 rfl (G7 rfl (A0 rfl) B6 (by first | omega | (simp only [C9, A8, szR] at *; omega))) ?_
  refine A5 rfl ?_
  refine A4 ?_
  refine L9 i (i + 1) ?_ ?_ (K0 ⟨rfl, rfl, rfl, rfl, rfl, trivial⟩)
  ·exact ⟨by omega, by rw [hinv.2, drop_some hx, List.all_cons, h20]; rfl⟩
  omega
 intro h14
 have k14 := of_decide_eq_false h14; try simp only [A9] at k14
 have hge : rs.length ≤ i := by omega
 have hr : (rs.all fun k => !hasK h.Writes k) = true := by (rw [hinv.2, List.drop_eq_nil_of_le hge]; rfl)
 refine G9 ?_
 refine A3 (A3 (A2 ?_))
 refine A5 rfl ?_
 refine A1 rfl (H2 rfl G0 (A0 rfl)) ?_
 refine A1 rfl (B9 rfl B6) ?_
 refine A4 (D1 ?_)
 refine J6 [(3, _), (22, _), (23, _)] _ (fun (q : Nat) => q ≤ ws.length ∧ (ws.all fun w => !(hasK h.Writes w.Key || hasS h.Reads w.Key)) = ((ws.drop q).all fun w => !(hasK h.Writes w.Key || hasS h.Reads w.Key))) (fun (q : Nat) => []) (fun (q : Nat) => [(24, AV.int q)]) (fun (q : Nat) => ws.length - q) (0) ?_ (K0 ⟨rfl, rfl, rfl, rfl, trivial⟩) ?_
 ·exact ⟨Nat.zero_le _, rfl⟩
 intro q hinv
 refine A3 (A2 ?_)
 refine A1 rfl (K5 rfl (A0 rfl) (A0 rfl)) ?_
 refine A4 (A3 ?_)
 refine C4 (A0 rfl) ?_ ?_
 ·intro h25
  have k25 := of_decide_eq_true h25; try simp only [A9] at k25
  have hlt : q < ws.length := by omega
  obtain ⟨x, hx⟩ := get_some hlt
  refine C8 (A3 (D1 (A3 (A2 ?_))))
  refine A1 rfl (J4 rfl G0 H6 (A0 rfl) (A0 rfl) hx (by first | omega | (simp only [C9, A8, szR] at *; omega))) ?_
  refine A1 rfl (L4 rfl (A0 rfl) T9 H6) ?_
  refine G3 rfl rfl rfl rfl Tryz.zeroValue101 rfl ?_
  intro b10
  refine D7 0 rfl rfl rfl (A0 rfl) (A0 rfl) (F0 _) rfl H6 rfl ?_
  refine A4 (A3 (A2 ?_))
  refine A1 rfl (B1 4 rfl F5 rfl K2 (A0 rfl) rfl) ?_
  refine A1 rfl (B0 1 rfl (A0 rfl) rfl M1 rfl) ?_
  refine A1 rfl (B1 0 rfl H0 rfl E5 (A0 rfl) rfl) ?_
  refine A1 rfl (B0 0 rfl (A0 rfl) rfl F7 rfl) ?_
  refine A1 rfl (E8 rfl Tryz.call214 rfl (AX1 _ _) (A7 (A0 rfl) (A7 (A0 rfl) C6))) ?_
  refine A5 rfl ?_
  refine H8 rfl (fun hc => B1 3 rfl F5 rfl N0 (A0 rfl) rfl) ?_
  refine H8 rfl (fun hc => B0 1 rfl (A6 rfl hc) rfl P1 rfl) ?_
  refine H8 rfl (fun hc => B1 0 rfl H0 rfl E5 (A0 rfl) rfl) ?_
  refine H8 rfl (fun hc => B0 0 rfl (A6 rfl hc) rfl F7 rfl) ?_
  refine H8 rfl (fun hc => E8 rfl Tryz.call215 rfl (Aw6 _ _) (A7 (A6 rfl hc) (A7 (A6 rfl hc) C6))) ?_
  refine A1 rfl (R5 rfl (A0 rfl) (F9 rfl)) ?_
  refine A4 ?_
  refine C4 (A0 rfl) ?_ ?_
  ·intro h39
   have hfin : apart h rs ws = false := by (unfold apart; rw [hinv.2, drop_some hx, List.all_cons, h39]; simp)
   refine A3 (A2 ?_)
   refine A1 rfl (B7 rfl F8) ?_
   refine A4 ?_
   refine C5 ?_
   exact H9 rfl (B8 rfl (by exact congrArg AV.bool hfin.symm))
  intro h39
  refine C8 (A2 ?_)
  refine A1 rfl (G7 rfl (A0 rfl) B6 (by first | omega | (simp only [C9, A8, szR] at *; omega))) ?_
  refine A5 rfl ?_
  refine A4 ?_
  refine L9 q (q + 1) ?_ ?_ (U7 1 ⟨rfl, rfl, rfl, rfl, trivial⟩)
  ·exact ⟨by omega, by rw [hinv.2, drop_some hx, List.all_cons, h39]; rfl⟩
  omega
 intro h25
 have k25 := of_decide_eq_false h25; try simp only [A9] at k25
 have hge : ws.length ≤ q := by omega
 have hfin : apart h rs ws = true := by (unfold apart; rw [hr, hinv.2, List.drop_eq_nil_of_le hge]; rfl)
 refine G9 ?_
 refine A3 (A2 ?_)
 refine A1 rfl (B7 rfl F8) ?_
 refine A4 ?_
 refine C5 ?_
 exact H9 rfl (B8 rfl (by exact congrArg AV.bool hfin.symm))
theorem Aq1 (l : List THeld) (q : Nat) : (hWs (l.take q)).length ≤ (hWs l).length := by
  have h := AW3 (l.take q) (l.drop q)
  rw [List.take_append_drop] at h
  rw [h, H5]; omega
theorem AX2 (s : TState) (ws : List TWrite) (hs : s.size ≤ 1048576) (hb : s.Cells.length + ws.length + (hWs s.Held).length ≤ 800000) : FSpec Tryz.prog 179 [AV.agg s.cs, AV.list 3 (ws.map TWrite.cs)] (AV.bool (room s.Cells (ws ++ hWs s.Held))) := by
 obtain ⟨hs1, hs2, hs3, hs4, hs5⟩ := W1 hs
 obtain ⟨p, hp⟩ : ∃ p : TWrite → Bool, p = fun w => !fullC s.Cells w.Key := ⟨_, rfl⟩
 obtain ⟨al, hal⟩ : ∃ al, ws ++ hWs s.Held = al := ⟨_, rfl⟩
 have hall : al.length ≤ 800000 - s.Cells.length := by rw [← hal, H5]; omega
 rw [hal]
 refine E9 Tryz.func179 rfl Tryz.ntmps179 rfl ?_
 refine A3 (A2 ?_)
 refine O3 rfl rfl rfl rfl (A0 rfl) ?_
 intro b2
 refine A1 rfl (B7 rfl F8) ?_
 refine A4 (A3 (A2 ?_))
 refine X5 9 1 rfl rfl rfl rfl M4 ?_
 intro v5
 refine A4 (A3 (A3 (A2 ?_)))
 refine A1 rfl (B1 1 rfl C0 rfl N2 (A0 rfl) rfl) ?_
 refine A1 rfl (B0 1 rfl (A0 rfl) rfl O9 rfl) ?_
 refine A1 rfl (H2 rfl C7 (A0 rfl)) ?_
 refine A1 rfl (B9 rfl B6) ?_
 refine A4 (D1 ?_)
 refine Q9 [(1, _), (2, _), (4, _), (15, _), (16, _)] _ (fun (i : Nat) (v : Value) => i ≤ s.Cells.length) (fun (i : Nat) (v : Value) => [.arr v 9 1 ((putAllS (cKeys (s.Cells.take i)) []).map fun s => [AV.str s])]) (fun (i : Nat) (v : Value) => [(5, AV.is v), (17, AV.int i)]) (fun (i : Nat) (v : Value) => s.Cells.length - i) (0) (v5) ?_ (S6 (by rfl) ⟨rfl, rfl, rfl, rfl, rfl, rfl, rfl, trivial⟩) ?_
 ·exact Nat.zero_le _
 intro i v hinv
 refine A3 (A2 ?_)
 refine A1 rfl (K5 rfl (A0 rfl) (A0 rfl)) ?_
 refine A4 (A3 ?_)
 refine C4 (A0 rfl) ?_ ?_
 ·intro h18
  have k18 := of_decide_eq_true h18; try simp only [A9] at k18
  have hlt : i < s.Cells.length := by omega
  obtain ⟨c, hx⟩ := get_some hlt
  have hpl := AE6 (cKeys (s.Cells.take i)) []
  unfold cKeys at hpl
  simp only [A9, E4, L6] at hpl
  refine C8 (A3 (D1 (A3 (A2 ?_))))
  refine A1 rfl (J4 rfl C7 E2 (A0 rfl) (A0 rfl) hx (by first | omega | (simp only [C9, A8, szR] at *; omega))) ?_
  refine A1 rfl (L4 rfl (A0 rfl) S7 E2) ?_
  refine G3 rfl rfl rfl rfl Tryz.zeroValue125 rfl ?_
  intro b7
  refine D7 0 rfl rfl rfl (A0 rfl) (A0 rfl) (F0 _) rfl E2 rfl ?_
  refine A4 (A2 ?_)
  refine A5 rfl ?_
  refine A1 rfl (B1 0 rfl F4 rfl E5 (A0 rfl) rfl) ?_
  refine A1 rfl (B0 0 rfl (A0 rfl) rfl F7 rfl) ?_
  refine J9 [1] rfl rfl rfl rfl Tryz.call169 rfl (AI7 v (putAllS (cKeys (s.Cells.take i)) []) c.Key (u9 List.Pairwise.nil).1 (by unfold cKeys; omega)) (A7 (A0 rfl) (A7 (A0 rfl) C6)) rfl ?_
  intro x24 ok24
  refine B5 rfl ?_
  refine A4 (A2 ?_)
  refine A1 rfl (G7 rfl (A0 rfl) B6 (by first | omega | (simp only [C9, A8, szR] at *; omega))) ?_
  refine A5 rfl ?_
  refine A4 ?_
  refine P6 i v (i + 1) (x24) ?_ ?_ (Le.trans (H4 [1, 0] rfl) (L5 1 (by exact congrArg (fun z => Own.arr _ 9 1 (List.map (fun s => [AV.str s]) z) :: _) (by unfold cKeys; rw [List.take_add_one, hx, List.map_append]; exact (AL3 _ _ _).symm)) ⟨rfl, rfl, rfl, rfl, rfl, rfl, rfl, trivial⟩))
  ·omega
  omega
 intro h18
 have k18 := of_decide_eq_false h18; try simp only [A9] at k18
 have hge : s.Cells.length ≤ i := by omega
 rw [List.take_of_length_le hge]
 refine G9 ?_
 refine A3 (A2 ?_)
 refine U3 rfl rfl rfl rfl G0 H6 ?_
 intro v26
 refine A5 rfl ?_
 refine N3 (by' := 40) 0 rfl rfl rfl rfl G0 Tryz.type101 rfl rfl rfl rfl rfl rfl (A0 rfl) (A0 rfl) rfl (by simp only [L6, A9]; omega) ?_
 intro v28_1
 refine B5 rfl ?_
 refine A4 (A3 (A3 (A2 ?_)))
 refine A1 rfl (B1 2 rfl C0 rfl G4 (A0 rfl) rfl) ?_
 refine A1 rfl (B0 2 rfl (A0 rfl) rfl L8 rfl) ?_
 refine A1 rfl (H2 rfl E0 (A0 rfl)) ?_
 refine A1 rfl (B9 rfl B6) ?_
 refine A4 (D1 ?_)
 refine Z4 [(2, _), (4, _), (5, _), (30, _), (31, _)] _ (fun (q : Nat) (u : Value) (a : List TWrite) => q ≤ s.Held.length ∧ a = ws ++ hWs (s.Held.take q)) (fun (q : Nat) (u : Value) (a : List TWrite) => [.arr u 101 3 (a.map TWrite.cs)]) (fun (q : Nat) (u : Value) (a : List TWrite) => [(8, AV.is u), (32, AV.int q)]) (fun (q : Nat) (u : Value) (a : List TWrite) => s.Held.length - q) (0) (v28_1) (ws) ?_ (S6 (by rfl) ⟨rfl, rfl, rfl, rfl, rfl, rfl, rfl, trivial⟩) ?_
 ·exact ⟨Nat.zero_le _, by rw [List.take_zero]; exact (List.append_nil _).symm⟩
 intro q u a hinv
 refine A3 (A2 ?_)
 refine A1 rfl (K5 rfl (A0 rfl) (A0 rfl)) ?_
 refine A4 (A3 ?_)
 refine C4 (A0 rfl) ?_ ?_
 ·intro h33
  have k33 := of_decide_eq_true h33; try simp only [A9] at k33
  have hlt : q < s.Held.length := by omega
  obtain ⟨h, hx⟩ := get_some hlt
  obtain ⟨g1, g2, g3, g4, g5⟩ := X8 hs2 hx
  have hwt := Aq1 s.Held q
  have hal9 : a.length ≤ 800000 := by (rw [hinv.2, H5]; omega)
  refine C8 (A3 (D1 (A3 (A2 ?_))))
  refine A1 rfl (J4 rfl E0 D4 (A0 rfl) (A0 rfl) hx (by first | omega | (simp only [C9, A8, szR] at *; omega))) ?_
  refine A1 rfl (L4 rfl (A0 rfl) J3 D4) ?_
  refine G3 rfl rfl rfl rfl Tryz.zeroValue141 rfl ?_
  intro b10
  refine D7 0 rfl rfl rfl (A0 rfl) (A0 rfl) (F0 _) rfl D4 rfl ?_
  refine A4 (A2 ?_)
  refine A5 rfl ?_
  refine A1 rfl (B1 4 rfl F5 rfl K2 (A0 rfl) rfl) ?_
  refine A1 rfl (B0 0 rfl (A0 rfl) rfl M1 rfl) ?_
  refine N3 (by' := 40) 1 rfl rfl rfl rfl G0 Tryz.type101 rfl rfl rfl rfl rfl rfl (A0 rfl) (A0 rfl) rfl (by simp only [H5, A9]; omega) ?_
  intro v39_2
  refine B5 rfl ?_
  refine A4 (A2 ?_)
  refine A1 rfl (G7 rfl (A0 rfl) B6 (by first | omega | (simp only [C9, A8, szR] at *; omega))) ?_
  refine A5 rfl ?_
  refine A4 ?_
  refine X0 q u a (q + 1) (v39_2) (a ++ h.Writes) ?_ ?_ (Le.trans (H4 [0, 0] rfl) (L5 1 (by (rw [List.map_append]; rfl)) ⟨rfl, rfl, rfl, rfl, rfl, rfl, rfl, trivial⟩))
  ·exact ⟨by omega, by rw [hinv.2, Am2 hx, List.append_assoc]⟩
  omega
 intro h33
 have k33 := of_decide_eq_false h33; try simp only [A9] at k33
 have hge : s.Held.length ≤ q := by omega
 have ha9 : a = al := by (rw [hinv.2, List.take_of_length_le hge, hal])
 subst ha9
 refine G9 ?_
 refine A3 (A3 (A2 ?_))
 refine A5 rfl ?_
 refine A1 rfl (V8 0 rfl G0 (A0 rfl) rfl) ?_
 refine A1 rfl (B9 rfl B6) ?_
 refine A4 (D1 ?_)
 refine AWP.le (H4 [1] rfl) ?_
 refine Z4 [(2, _), (41, _), (42, _)] _ (fun (r : Nat) (v2 : Value) (ks : List Str) => r ≤ a.length ∧ a.all p = (a.drop r).all p ∧ ks = putAllS (cKeys s.Cells ++ wKeys (a.take r)) []) (fun (r : Nat) (v2 : Value) (ks : List Str) => [.arr v2 9 1 (ks.map fun s => [AV.str s])]) (fun (r : Nat) (v2 : Value) (ks : List Str) => [(5, AV.is v2), (43, AV.int r)]) (fun (r : Nat) (v2 : Value) (ks : List Str) => a.length - r) (0) (v) (putAllS (cKeys s.Cells) []) ?_ (S6 (by rfl) ⟨rfl, rfl, rfl, rfl, rfl, trivial⟩) ?_
 ·exact ⟨Nat.zero_le _, rfl, by rw [List.take_zero]; exact congrArg (fun z => putAllS z []) (List.append_nil _).symm⟩
 intro r v2 ks hinv
 refine A3 (A2 ?_)
 refine A1 rfl (K5 rfl (A0 rfl) (A0 rfl)) ?_
 refine A4 (A3 ?_)
 refine C4 (A0 rfl) ?_ ?_
 ·intro h44
  have k44 := of_decide_eq_true h44; try simp only [A9] at k44
  have hlt : r < a.length := by omega
  obtain ⟨w, hx⟩ := get_some hlt
  obtain ⟨c, hc0⟩ := at_some s.Cells w.Key
  have hfu := fullC_at (l := s.Cells) (k := w.Key) (c := c) (fun h9 => (hc0 h9).2)
  have hpl := AE6 (cKeys s.Cells ++ wKeys (a.take r)) []
  unfold cKeys wKeys at hpl
  simp only [H5, A9, E4, L6] at hpl
  refine C8 (A3 (D1 (A3 (A2 ?_))))
  refine A1 rfl (U2 1 rfl G0 H6 (A0 rfl) rfl (A0 rfl) (by omega) (by try simp only [A9]; omega)) ?_
  refine A1 rfl (f9 1 rfl (A0 rfl) rfl T9 H6 (by rw [Int.toNat_natCast, List.getElem?_map, hx]; rfl) (by decide)) ?_
  refine G3 rfl rfl rfl rfl Tryz.zeroValue101 rfl ?_
  intro b12
  refine D7 0 rfl rfl rfl (A0 rfl) (A0 rfl) (F0 _) rfl H6 rfl ?_
  refine A4 (A3 (A2 ?_))
  refine A5 rfl ?_
  refine A1 rfl (B1 0 rfl H0 rfl E5 (A0 rfl) rfl) ?_
  refine A1 rfl (B0 0 rfl (A0 rfl) rfl F7 rfl) ?_
  refine J9 [1] rfl rfl rfl rfl Tryz.call169 rfl (AI7 v2 ks w.Key (by rw [hinv.2.2]; exact (u9 List.Pairwise.nil).1) (by rw [hinv.2.2]; unfold cKeys wKeys; omega)) (A7 (A0 rfl) (A7 (A0 rfl) C6)) rfl ?_
  intro x50 ok50
  refine B5 rfl ?_
  refine A4 (A3 (A2 ?_))
  refine A1 rfl (B1 1 rfl C0 rfl N2 (A0 rfl) rfl) ?_
  refine A1 rfl (B0 3 rfl (A0 rfl) rfl O9 rfl) ?_
  refine A1 rfl (B1 0 rfl H0 rfl E5 (A0 rfl) rfl) ?_
  refine A1 rfl (B0 1 rfl (A0 rfl) rfl F7 rfl) ?_
  refine A1 rfl (E8 rfl Tryz.call180 rfl (Ae3 _ _) (A7 (A0 rfl) (A7 (A0 rfl) C6))) ?_
  refine B5 rfl ?_
  refine A4 (A3 (A2 ?_))
  refine A5 rfl ?_
  refine A1 rfl (c6 rfl (A0 rfl) B6) ?_
  refine A5 rfl ?_
  refine D0 rfl (fun hc => B1 1 rfl C0 rfl N2 (A0 rfl) rfl) ?_
  refine D0 rfl (fun hc => B0 3 rfl (A6 rfl hc) rfl O9 rfl) ?_
  refine D0 rfl (fun hc => B9 rfl (A0 rfl)) ?_
  refine D0 rfl (fun hc => p8 rfl C7 E2 (A6 rfl hc) (A6 rfl hc) (by have h9 := of_decide_eq_true hc; obtain ⟨⟨p9, e1, e2⟩, _⟩ := hc0 (by omega); have := (List.getElem?_eq_some_iff.1 e2).1; omega) (by have h9 := of_decide_eq_true hc; obtain ⟨⟨p9, e1, e2⟩, _⟩ := hc0 (by omega); rw [e1, Int.toNat_natCast, List.getElem?_map, e2]; rfl)) ?_
  refine D0 rfl (fun hc => V7 rfl F4 rfl K1 (A6 rfl hc) rfl) ?_
  refine D0 rfl (fun hc => N9 rfl (A6 rfl hc) N5 rfl) ?_
  refine D0 rfl (fun hc => H2 rfl G8 (A6 rfl hc)) ?_
  refine D0 rfl (fun hc => c6 rfl (A6 rfl hc) B6) ?_
  refine A1 rfl (I1 rfl (A0 rfl) (F9 rfl)) ?_
  refine A4 ?_
  refine C4 (A0 rfl) ?_ ?_
  ·intro h67
   have hpw : p w = false := by (rw [hp]; simp only [Bool.not_eq_false']; rw [hfu]; rw [A9] at h67; exact h67)
   have hro : room s.Cells a = false := by (unfold room; rw [show (a.all fun w => !fullC s.Cells w.Key) = false from by rw [← hp, hinv.2.1, drop_some hx, List.all_cons, hpw]; rfl]; rfl)
   refine A3 (A2 ?_)
   refine A1 rfl (B7 rfl F8) ?_
   refine A4 ?_
   refine C5 ?_
   exact H9 rfl (B8 rfl (by first | exact congrArg AV.bool hro.symm | exact congrArg AV.bool (by rw [hro]; simp only [A9]; rw [decide_eq_decide]; omega)))
  intro h67
  have hpw : p w = true := by (rw [hp]; simp only [Bool.not_eq_true']; rw [hfu]; rw [A9] at h67; exact h67)
  refine C8 (A2 ?_)
  refine A1 rfl (G7 rfl (A0 rfl) B6 (by first | omega | (simp only [C9, A8, szR] at *; omega))) ?_
  refine A5 rfl ?_
  refine A4 ?_
  refine X0 r v2 ks (r + 1) (x50) (putS ks w.Key) ?_ ?_ (Le.trans (H4 [1, 0] rfl) (L5 1 (by rfl) ⟨rfl, rfl, rfl, rfl, rfl, trivial⟩))
  ·exact ⟨by omega, by rw [hinv.2.1, drop_some hx, List.all_cons, hpw]; rfl, by rw [hinv.2.2]; unfold wKeys; rw [List.take_add_one, hx, List.map_append, ← List.append_assoc]; exact (AL3 _ _ _).symm⟩
  omega
 intro h44
 have k44 := of_decide_eq_false h44; try simp only [A9] at k44
 have hge : a.length ≤ r := by omega
 have hks := hinv.2.2
 rw [List.take_of_length_le hge] at hks
 have hro : room s.Cells a = decide (ks.length ≤ 24) := by (unfold room roomKs; rw [← hp, hinv.2.1, List.drop_eq_nil_of_le hge, Az1, ← hks]; rfl)
 refine G9 ?_
 refine A3 (A2 ?_)
 refine A5 rfl ?_
 refine A1 rfl (V8 0 rfl E7 (A0 rfl) rfl) ?_
 refine A1 rfl (V0 rfl (A0 rfl) B6) ?_
 refine B5 rfl ?_
 refine A4 ?_
 refine C5 ?_
 exact H9 rfl (B8 rfl (by first | exact congrArg AV.bool hro.symm | exact congrArg AV.bool (by rw [hro]; simp only [A9]; rw [decide_eq_decide]; omega)))
theorem Aw7 (s : TState) (ws : List TWrite) (hs : s.size ≤ 400000) (hw : sizeL TWrite.size ws ≤ 400000) : FSpec Tryz.prog 179 [AV.agg s.cs, AV.list 3 (ws.map TWrite.cs)] (AV.bool (room s.Cells (ws ++ hWs s.Held))) := by
  have hsum : sizeL TCell.size s.Cells + sizeL THeld.size s.Held ≤ 400000 := by have h9 : s.size = sizeL TCell.size s.Cells + sizeL THeld.size s.Held + s.Told.length := rfl; omega
  have hcl := O2 (f := TCell.size) (l := s.Cells)
  have hwl := O2 (f := TWrite.size) (l := ws)
  have hhl := Aa2 (l := s.Held)
  exact AX2 s ws (by omega) (by omega)
theorem Af3 : ∀ {l : List THeld}, (∀ h ∈ l, goodRec (hRec h) = true) → (hWs l).length ≤ 400 * l.length
  | [], _ => Nat.le_refl _
  | h :: l, hg => by
    have ih := Af3 fun k hk => hg k (List.mem_cons_of_mem h hk)
    have h1 := Ah8 (hg h List.mem_cons_self)
    have h4 := O2 (f := TWrite.size) (l := h.Writes)
    have h2 : (hRec h).size = sizeL (fun x => x.length) h.Reads + sizeL TWrite.size h.Writes := rfl
    rw [AB7, H5, I5]; omega
theorem Aw8 {s : TState} (h : allB s.Held.length (heldAt s) = true) : ∀ k ∈ s.Held, goodRec (hRec k) = true := fun k hk => by
  obtain ⟨i, hi⟩ := List.getElem?_of_mem hk
  have h9 := l9.1 h i (List.getElem?_eq_some_iff.1 hi).1
  unfold heldAt at h9
  rw [hi] at h9
  simp only [Bool.and_eq_true] at h9
  exact h9.1.1.1.1
theorem AM8 (s : TState) (n : Int) (hlen : s.Held.length ≤ 1048576) : FSpec Tryz.prog 128 [AV.agg s.cs, AV.int n] (AV.tup [AV.agg (heldFO s.Held n).1.cs, AV.bool (heldFO s.Held n).2]) := by
 obtain ⟨l, hl⟩ : ∃ l, s.Held = l := ⟨_, rfl⟩
 have hcs : s.cs = [AV.int s.Floor, AV.list 2 (s.Cells.map TCell.cs), AV.list 5 (l.map THeld.cs), AV.list 3 (s.Told.map TTold.cs)] := by rw [← hl]; rfl
 rw [hl] at hlen
 rw [hl, hcs]
 refine E9 Tryz.func128 rfl Tryz.ntmps128 rfl ?_
 refine A3 (A2 ?_)
 refine O3 rfl rfl rfl rfl (A0 rfl) ?_
 intro b2
 refine G3 rfl rfl rfl rfl Tryz.zeroValue141 rfl ?_
 intro b4
 refine A1 rfl (B7 rfl F8) ?_
 refine A4 (A3 (A3 (A2 ?_)))
 refine A1 rfl (B1 2 rfl C0 rfl G4 (A0 rfl) rfl) ?_
 refine A1 rfl (B0 1 rfl (A0 rfl) rfl L8 rfl) ?_
 refine A1 rfl (H2 rfl E0 (A0 rfl)) ?_
 refine A1 rfl (B9 rfl B6) ?_
 refine A4 (D1 ?_)
 refine J6 [(1, _), (4, _), (9, _), (10, _)] _ (fun (i : Nat) => i ≤ l.length ∧ ∀ j y, j < i → l[j]? = some y → (y.Txn == n) = false) (fun (i : Nat) => []) (fun (i : Nat) => [(11, AV.int i)]) (fun (i : Nat) => l.length - i) (0) ?_ (K0 ⟨rfl, rfl, rfl, rfl, rfl, trivial⟩) ?_
 ·exact ⟨Nat.zero_le _, fun j y hj => by omega⟩
 intro i hinv
 refine A3 (A2 ?_)
 refine A1 rfl (K5 rfl (A0 rfl) (A0 rfl)) ?_
 refine A4 (A3 ?_)
 refine C4 (A0 rfl) ?_ ?_
 ·intro h12
  have k12 := of_decide_eq_true h12; try simp only [A9] at k12
  have hlt : i < l.length := by omega
  obtain ⟨x, hx⟩ := get_some hlt
  refine C8 (A3 (D1 (A3 (A2 ?_))))
  refine A1 rfl (J4 rfl E0 D4 (A0 rfl) (A0 rfl) hx (by first | omega | (simp only [C9, A8, szR] at *; omega))) ?_
  refine A1 rfl (L4 rfl (A0 rfl) J3 D4) ?_
  refine G3 rfl rfl rfl rfl Tryz.zeroValue141 rfl ?_
  intro b7
  refine D7 0 rfl rfl rfl (A0 rfl) (A0 rfl) (F0 _) rfl D4 rfl ?_
  refine A4 (A3 (A2 ?_))
  refine A1 rfl (B1 0 rfl F5 rfl B4 (A0 rfl) rfl) ?_
  refine A1 rfl (B0 0 rfl (A0 rfl) rfl C2 rfl) ?_
  refine A5 rfl ?_
  refine A1 rfl (O7 rfl (A0 rfl) (A0 rfl)) ?_
  refine A4 ?_
  refine C4 (A0 rfl) ?_ ?_
  ·intro h18
   have k18 := O1 h18; try simp only [A9] at k18
   have he : heldFO l n = (x, true) := by (unfold heldFO findH; rw [AA9 hx h18 hinv.2])
   rw [he]
   refine A3 (A2 ?_)
   refine A1 rfl (G5 0 rfl (A0 rfl) rfl J3 D4 rfl) ?_
   refine D7 1 rfl rfl rfl (A0 rfl) (A0 rfl) (F0 _) rfl D4 rfl ?_
   refine A1 rfl (B7 rfl F8) ?_
   refine A4 ?_
   refine C5 ?_
   exact i6 rfl (by decide) (F2 (M2 (ys := _) 1 rfl rfl J3 D4 rfl) (F2 (B8 rfl (by rfl)) L7))
  intro h18
  have k18 := O0 h18; try simp only [A9] at k18
  refine C8 (A2 ?_)
  refine A1 rfl (G7 rfl (A0 rfl) B6 (by first | omega | (simp only [C9, A8, szR] at *; omega))) ?_
  refine A5 rfl ?_
  refine A4 ?_
  refine L9 i (i + 1) ?_ ?_ (U7 1 ⟨rfl, rfl, rfl, rfl, rfl, trivial⟩)
  ·exact ⟨by omega, fun j y hj hy => if hji : j < i then hinv.2 j y hji hy else (by have e : j = i := (by omega); subst e; rw [hx] at hy; injection hy with hy; subst hy; exact h18)⟩
  omega
 intro h12
 have k12 := of_decide_eq_false h12; try simp only [A9] at k12
 have hge : l.length ≤ i := by omega
 have he : heldFO l n = (zHeld, false) := by (unfold heldFO findH; rw [AT5 fun j y hy => hinv.2 j y (Nat.lt_of_lt_of_le (List.getElem?_eq_some_iff.1 hy).1 hge) hy])
 rw [he]
 refine G9 ?_
 refine A3 (A2 ?_)
 refine A1 rfl (P0 (places := #[(0, 1), (1, 1), (2, 1), (3, 1), (4, 1)]) rfl F5 Tryz.zeroValue141 (fun w => by kernel_rfl) rfl I2 rfl) ?_
 refine D7 0 rfl rfl rfl (A0 rfl) (A0 rfl) (F0 _) rfl D4 rfl ?_
 refine A1 rfl (B7 rfl F8) ?_
 refine A4 ?_
 refine C5 ?_
 refine AQ7 0 3 1 rfl rfl ?_
 refine AQ7 0 4 3 rfl rfl ?_
 exact i6 rfl (by decide) (F2 (M2 (ys := _) 0 rfl rfl J3 D4 rfl) (F2 (B8 rfl (by rfl)) L7))
theorem AM9 (s : TState) (n : Int) (hlen : s.Told.length ≤ 1048576) : FSpec Tryz.prog 200 [AV.agg s.cs, AV.int n] (AV.tup [AV.agg (toldFO s.Told n).1.cs, AV.bool (toldFO s.Told n).2]) := by
 obtain ⟨l, hl⟩ : ∃ l, s.Told = l := ⟨_, rfl⟩
 have hcs : s.cs = [AV.int s.Floor, AV.list 2 (s.Cells.map TCell.cs), AV.list 5 (s.Held.map THeld.cs), AV.list 3 (l.map TTold.cs)] := by rw [← hl]; rfl
 rw [hl] at hlen
 rw [hl, hcs]
 refine E9 Tryz.func200 rfl Tryz.ntmps200 rfl ?_
 refine A3 (A2 ?_)
 refine O3 rfl rfl rfl rfl (A0 rfl) ?_
 intro b2
 refine G3 rfl rfl rfl rfl Tryz.zeroValue144 rfl ?_
 intro b4
 refine A1 rfl (B7 rfl F8) ?_
 refine A4 (A3 (A3 (A2 ?_)))
 refine A1 rfl (B1 3 rfl C0 rfl N4 (A0 rfl) rfl) ?_
 refine A1 rfl (B0 1 rfl (A0 rfl) rfl T4 rfl) ?_
 refine A1 rfl (H2 rfl I0 (A0 rfl)) ?_
 refine A1 rfl (B9 rfl B6) ?_
 refine A4 (D1 ?_)
 refine J6 [(1, _), (4, _), (9, _), (10, _)] _ (fun (i : Nat) => i ≤ l.length ∧ ∀ j y, j < i → l[j]? = some y → (y.Txn == n) = false) (fun (i : Nat) => []) (fun (i : Nat) => [(11, AV.int i)]) (fun (i : Nat) => l.length - i) (0) ?_ (K0 ⟨rfl, rfl, rfl, rfl, rfl, trivial⟩) ?_
 ·exact ⟨Nat.zero_le _, fun j y hj => by omega⟩
 intro i hinv
 refine A3 (A2 ?_)
 refine A1 rfl (K5 rfl (A0 rfl) (A0 rfl)) ?_
 refine A4 (A3 ?_)
 refine C4 (A0 rfl) ?_ ?_
 ·intro h12
  have k12 := of_decide_eq_true h12; try simp only [A9] at k12
  have hlt : i < l.length := by omega
  obtain ⟨x, hx⟩ := get_some hlt
  refine C8 (A3 (D1 (A3 (A2 ?_))))
  refine A1 rfl (J4 rfl I0 K7 (A0 rfl) (A0 rfl) hx (by first | omega | (simp only [C9, A8, szR] at *; omega))) ?_
  refine A1 rfl (L4 rfl (A0 rfl) a7 K7) ?_
  refine G3 rfl rfl rfl rfl Tryz.zeroValue144 rfl ?_
  intro b7
  refine D7 0 rfl rfl rfl (A0 rfl) (A0 rfl) (F0 _) rfl K7 rfl ?_
  refine A4 (A3 (A2 ?_))
  refine A1 rfl (B1 0 rfl K8 rfl B4 (A0 rfl) rfl) ?_
  refine A1 rfl (B0 0 rfl (A0 rfl) rfl C2 rfl) ?_
  refine A5 rfl ?_
  refine A1 rfl (O7 rfl (A0 rfl) (A0 rfl)) ?_
  refine A4 ?_
  refine C4 (A0 rfl) ?_ ?_
  ·intro h18
   have k18 := O1 h18; try simp only [A9] at k18
   have he : toldFO l n = (x, true) := by (unfold toldFO findT; rw [AA9 hx h18 hinv.2])
   rw [he]
   refine A3 (A2 ?_)
   refine A1 rfl (G5 0 rfl (A0 rfl) rfl a7 K7 rfl) ?_
   refine D7 1 rfl rfl rfl (A0 rfl) (A0 rfl) (F0 _) rfl K7 rfl ?_
   refine A1 rfl (B7 rfl F8) ?_
   refine A4 ?_
   refine C5 ?_
   exact i6 rfl (by decide) (F2 (M2 (ys := _) 1 rfl rfl a7 K7 rfl) (F2 (B8 rfl (by rfl)) L7))
  intro h18
  have k18 := O0 h18; try simp only [A9] at k18
  refine C8 (A2 ?_)
  refine A1 rfl (G7 rfl (A0 rfl) B6 (by first | omega | (simp only [C9, A8, szR] at *; omega))) ?_
  refine A5 rfl ?_
  refine A4 ?_
  refine L9 i (i + 1) ?_ ?_ (U7 1 ⟨rfl, rfl, rfl, rfl, rfl, trivial⟩)
  ·exact ⟨by omega, fun j y hj hy => if hji : j < i then hinv.2 j y hji hy else (by have e : j = i := (by omega); subst e; rw [hx] at hy; injection hy with hy; subst hy; exact h18)⟩
  omega
 intro h12
 have k12 := of_decide_eq_false h12; try simp only [A9] at k12
 have hge : l.length ≤ i := by omega
 have he : toldFO l n = (zTold, false) := by (unfold toldFO findT; rw [AT5 fun j y hy => hinv.2 j y (Nat.lt_of_lt_of_le (List.getElem?_eq_some_iff.1 hy).1 hge) hy])
 rw [he]
 refine G9 ?_
 refine A3 (A2 ?_)
 refine A1 rfl (P0 (places := #[(0, 1), (1, 1), (2, 1)]) rfl K8 Tryz.zeroValue144 (fun w => by kernel_rfl) rfl I2 rfl) ?_
 refine D7 0 rfl rfl rfl (A0 rfl) (A0 rfl) (F0 _) rfl K7 rfl ?_
 refine A1 rfl (B7 rfl F8) ?_
 refine A4 ?_
 refine C5 ?_
 exact i6 rfl (by decide) (F2 (M2 (ys := _) 0 rfl rfl a7 K7 rfl) (F2 (B8 rfl (by rfl)) L7))
theorem Ai0 (s : TState) (ho : CellsOk s.Cells) (hcl : s.Cells.length ≤ 400000) (hs : s.size ≤ 1048576) : FSpec Tryz.prog 126 [AV.agg s.cs] (AV.bool (areHeld s)) := by
 obtain ⟨hs1, hs2, hs3, hs4, hs5⟩ := W1 hs
 refine E9 Tryz.func126 rfl Tryz.ntmps126 rfl ?_
 refine A3 (A2 ?_)
 refine O3 rfl rfl rfl rfl (A0 rfl) ?_
 intro b1
 refine A1 rfl (B7 rfl F8) ?_
 refine A4 (A3 (A3 (A2 ?_)))
 refine A1 rfl (B1 2 rfl C0 rfl G4 (A0 rfl) rfl) ?_
 refine A1 rfl (B0 0 rfl (A0 rfl) rfl L8 rfl) ?_
 refine A1 rfl (H2 rfl E0 (A0 rfl)) ?_
 refine A1 rfl (B9 rfl B6) ?_
 refine A4 (D1 ?_)
 refine J6 [(1, _), (10, _), (11, _)] _ (fun (i : Nat) => i ≤ s.Held.length ∧ ∀ j, j < i → heldAt s j = true) (fun (i : Nat) => []) (fun (i : Nat) => [(12, AV.int i)]) (fun (i : Nat) => s.Held.length - i) (0) ?_ (K0 ⟨rfl, rfl, rfl, rfl, trivial⟩) ?_
 ·exact ⟨Nat.zero_le _, fun j hj => by omega⟩
 intro i hinv
 refine A3 (A2 ?_)
 refine A1 rfl (K5 rfl (A0 rfl) (A0 rfl)) ?_
 refine A4 (A3 ?_)
 refine C4 (A0 rfl) ?_ ?_
 ·intro h13
  have k13 := of_decide_eq_true h13; try simp only [A9] at k13
  have hlt : i < s.Held.length := by omega
  obtain ⟨h, hx⟩ := get_some hlt
  obtain ⟨y, hy⟩ := get_some (show i - 1 < s.Held.length by omega)
  obtain ⟨g1, g2, g3, g4, g5⟩ := X8 hs2 hx
  have hinv0 := hinv
  refine C8 (A3 (D1 (A3 (A2 ?_))))
  refine A5 rfl ?_
  refine A1 rfl (J4 rfl E0 D4 (A0 rfl) (A0 rfl) hx (by first | omega | (simp only [C9, A8, szR] at *; omega))) ?_
  refine A1 rfl (L4 rfl (A0 rfl) J3 D4) ?_
  refine G3 rfl rfl rfl rfl Tryz.zeroValue141 rfl ?_
  intro b4
  refine B5 rfl ?_
  refine D7 0 rfl rfl rfl (A0 rfl) (A0 rfl) (F0 _) rfl D4 rfl ?_
  refine A4 (A3 (A3 ?_))
  refine J5 (by kernel_rfl) (by kernel_rfl) rfl ?_
  refine B2 rfl rfl (G5 0 rfl (A0 rfl) rfl J3 D4 rfl) ?_
  refine B2 rfl rfl (E8 rfl Tryz.call177 rfl (Ah9 _) (A7 (A0 rfl) C6)) ?_
  refine B2 rfl rfl (E8 rfl Tryz.call106 rfl (AQ3 _ (by first | assumption | omega)) (A7 (A0 rfl) C6)) ?_
  refine B2 rfl rfl (M5 rfl (A0 rfl)) ?_
  refine B2 rfl rfl (B9 rfl (A0 rfl)) ?_
  refine D2 rfl (I4 rfl rfl rfl) (fun hc => B1 1 rfl F5 rfl B4 (A0 rfl) rfl) ?_
  refine D2 rfl (I4 rfl rfl rfl) (fun hc => B0 0 rfl (A6 rfl hc) rfl C2 rfl) ?_
  refine D2 rfl (I4 rfl rfl rfl) (fun hc => B1 0 rfl C0 rfl B4 (A0 rfl) rfl) ?_
  refine D2 rfl (I4 rfl rfl rfl) (fun hc => B0 1 rfl (A6 rfl hc) rfl C2 rfl) ?_
  refine D2 rfl (I4 rfl rfl rfl) (fun hc => O8 rfl (A6 rfl hc) (A6 rfl hc)) ?_
  refine B2 rfl rfl (R5 rfl (A0 rfl) (F9 rfl)) ?_
  refine B2 rfl rfl (B9 rfl (A0 rfl)) ?_
  refine D2 rfl (I4 rfl rfl rfl) (fun hc => B9 rfl (A0 rfl)) ?_
  refine D2 rfl (I4 rfl rfl rfl) (fun hc => O8 rfl (A6 rfl hc) B6) ?_
  refine D2 rfl (I4 rfl rfl rfl) (fun hc => B9 rfl (A6 rfl hc)) ?_
  refine D2 rfl (E1 rfl rfl rfl) (fun hc => B1 2 rfl C0 rfl G4 (A0 rfl) rfl) ?_
  refine D2 rfl (E1 rfl rfl rfl) (fun hc => B0 1 rfl (A6 rfl hc) rfl L8 rfl) ?_
  refine D2 rfl (E1 rfl rfl rfl) (fun hc => B9 rfl (A0 rfl)) ?_
  refine D2 rfl (E1 rfl rfl rfl) (fun hc => P9 rfl (A6 rfl hc) B6 (by first | omega | ((try simp only [C9, A8, szR] at *); omega) | (have hc2 := hc; simp only [P4, beq_iff_eq, bne_iff_ne, A9, E4] at hc2; omega))) ?_
  refine D2 rfl (E1 rfl rfl rfl) (fun hc => J4 rfl E0 D4 (A6 rfl hc) (A6 rfl hc) hy (by first | omega | ((try simp only [C9, A8, szR] at *); omega) | (have hc2 := hc; simp only [P4, beq_iff_eq, bne_iff_ne, A9, E4] at hc2; omega))) ?_
  refine D2 rfl (E1 rfl rfl rfl) (fun hc => V7 rfl F5 rfl B4 (A6 rfl hc) rfl) ?_
  refine D2 rfl (E1 rfl rfl rfl) (fun hc => N9 rfl (A6 rfl hc) C2 rfl) ?_
  refine D2 rfl (E1 rfl rfl rfl) (fun hc => B1 0 rfl F5 rfl B4 (A0 rfl) rfl) ?_
  refine D2 rfl (E1 rfl rfl rfl) (fun hc => B0 0 rfl (A6 rfl hc) rfl C2 rfl) ?_
  refine D2 rfl (E1 rfl rfl rfl) (fun hc => c6 rfl (A6 rfl hc) (A6 rfl hc)) ?_
  refine D2 rfl (I4 rfl rfl rfl) (fun hc => I1 rfl (A6 rfl hc) (Q0 rfl hc)) ?_
  refine B2 rfl rfl (R5 rfl (A0 rfl) (F9 rfl)) ?_
  refine P2 ?_
  refine C4 (A0 rfl) ?_ ?_
  ·intro h43
   have hfin : areHeld s = false := by (unfold areHeld; rw [Z5 hlt (by rw [AA8 hx hy, h43]; rfl)]; rfl)
   refine A3 (A2 ?_)
   refine A1 rfl (B7 rfl F8) ?_
   refine A4 ?_
   refine C5 ?_
   exact H9 rfl (B8 rfl (by first | exact congrArg AV.bool hfin.symm | exact congrArg AV.bool (by unfold areHeld; rw [hall, Bool.true_and, List.nil_append, A9]; congr 1; rw [decide_eq_decide]; omega)))
  intro h43
  refine C8 (A3 (A3 (A2 ?_)))
  refine A1 rfl (B1 2 rfl C0 rfl G4 (A0 rfl) rfl) ?_
  refine A1 rfl (B0 1 rfl (A0 rfl) rfl L8 rfl) ?_
  refine A5 rfl ?_
  refine A1 rfl (AC7 rfl E0 D4 (A0 rfl) (A0 rfl) (by first | omega | (simp only [C9, A8, szR] at *; omega)) (by first | omega | (simp only [C9, A8, szR] at *; omega))) ?_
  refine A1 rfl (H2 rfl E0 (A0 rfl)) ?_
  refine A1 rfl (B9 rfl B6) ?_
  refine A4 (D1 ?_)
  refine J6 [(1, _), (3, _), (4, _), (10, _), (11, _), (12, _), (13, _), (14, _), (15, _), (16, _), (17, _), (18, _), (19, _), (20, _), (21, _), (27, _), (28, _), (43, _), (44, _), (45, _), (46, _), (47, _), (48, _)] _ (fun (q : Nat) => q ≤ (s.Held.take i).length ∧ ((s.Held.take i).all fun g => apart g h.Reads h.Writes) = (((s.Held.take i).drop q).all fun g => apart g h.Reads h.Writes)) (fun (q : Nat) => []) (fun (q : Nat) => [(49, AV.int q)]) (fun (q : Nat) => (s.Held.take i).length - q) (0) ?_ (K0 ⟨rfl, rfl, rfl, rfl, rfl, rfl, rfl, rfl, rfl, rfl, rfl, rfl, rfl, rfl, rfl, rfl, rfl, rfl, rfl, rfl, rfl, rfl, rfl, rfl, trivial⟩) ?_
  ·exact ⟨Nat.zero_le _, rfl⟩
  intro q hinv
  refine A3 (A2 ?_)
  refine A1 rfl (K5 rfl (A0 rfl) (A0 rfl)) ?_
  refine A4 (A3 ?_)
  refine C4 (A0 rfl) ?_ ?_
  ·intro h50
   have k50 := of_decide_eq_true h50; try simp only [A9] at k50
   have hlt2 : q < (s.Held.take i).length := by (simp only [E4, A9, Int.toNat_natCast] at k50 ⊢; omega)
   obtain ⟨k, hx2⟩ := get_some hlt2
   refine C8 (A3 (D1 (A3 (A2 ?_))))
   refine A1 rfl (J4 rfl E0 D4 (A0 rfl) (A0 rfl) hx2 (by first | omega | (simp only [C9, A8, szR] at *; omega))) ?_
   refine A1 rfl (L4 rfl (A0 rfl) J3 D4) ?_
   refine G3 rfl rfl rfl rfl Tryz.zeroValue141 rfl ?_
   intro b6
   refine D7 0 rfl rfl rfl (A0 rfl) (A0 rfl) (F0 _) rfl D4 rfl ?_
   refine A4 (A3 (A2 ?_))
   refine A1 rfl (G5 0 rfl (A0 rfl) rfl J3 D4 rfl) ?_
   refine A1 rfl (B1 3 rfl F5 rfl N0 (A0 rfl) rfl) ?_
   refine A1 rfl (B0 1 rfl (A0 rfl) rfl P1 rfl) ?_
   refine A1 rfl (B1 4 rfl F5 rfl K2 (A0 rfl) rfl) ?_
   refine A1 rfl (B0 1 rfl (A0 rfl) rfl M1 rfl) ?_
   refine A1 rfl (E8 rfl Tryz.call178 rfl (apart_spec _ _ _) (A7 (A0 rfl) (A7 (A0 rfl) (A7 (A0 rfl) C6)))) ?_
   refine A1 rfl (M5 rfl (A0 rfl)) ?_
   refine A4 ?_
   refine C4 (A0 rfl) ?_ ?_
   ·intro h59
    have hfin : areHeld s = false := by (unfold areHeld; rw [Z5 hlt (by rw [AA8 hx hy, hinv.2, drop_some hx2, List.all_cons, show apart k h.Reads h.Writes = false by simpa using h59]; simp)]; rfl)
    refine A3 (A2 ?_)
    refine A1 rfl (B7 rfl F8) ?_
    refine A4 ?_
    refine C5 ?_
    exact H9 rfl (B8 rfl (by first | exact congrArg AV.bool hfin.symm | exact congrArg AV.bool (by unfold areHeld; rw [hall, Bool.true_and, List.nil_append, A9]; congr 1; rw [decide_eq_decide]; omega)))
   intro h59
   refine C8 (A2 ?_)
   refine A1 rfl (G7 rfl (A0 rfl) B6 (by first | omega | (simp only [C9, A8, szR] at *; omega))) ?_
   refine A5 rfl ?_
   refine A4 ?_
   refine L9 q (q + 1) ?_ ?_ (U7 1 ⟨rfl, rfl, rfl, rfl, rfl, rfl, rfl, rfl, rfl, rfl, rfl, rfl, rfl, rfl, rfl, rfl, rfl, rfl, rfl, rfl, rfl, rfl, rfl, rfl, trivial⟩)
   ·exact ⟨by omega, by rw [hinv.2, drop_some hx2, List.all_cons, show apart k h.Reads h.Writes = true by simpa using h59]; rfl⟩
   omega
  intro h50
  have k50 := of_decide_eq_false h50; try simp only [A9] at k50
  have hge2 : (s.Held.take i).length ≤ q := by (simp only [E4, A9, Int.toNat_natCast] at k50 ⊢; omega)
  have hap : ((s.Held.take i).all fun g => apart g h.Reads h.Writes) = true := by (rw [hinv.2, List.drop_eq_nil_of_le hge2]; rfl)
  refine G9 ?_
  refine A3 (A2 ?_)
  refine A1 rfl (B1 4 rfl F5 rfl K2 (A0 rfl) rfl) ?_
  refine A1 rfl (B0 0 rfl (A0 rfl) rfl M1 rfl) ?_
  refine A1 rfl (H2 rfl G0 (A0 rfl)) ?_
  refine A1 rfl (B9 rfl B6) ?_
  refine A4 (D1 ?_)
  refine J6 [(1, _), (3, _), (4, _), (10, _), (11, _), (12, _), (13, _), (14, _), (15, _), (16, _), (17, _), (18, _), (19, _), (20, _), (21, _), (27, _), (28, _), (43, _), (44, _), (45, _), (46, _), (47, _), (48, _), (49, _), (50, _), (61, _), (62, _), (63, _)] _ (fun (r : Nat) => r ≤ h.Writes.length ∧ (h.Writes.all fun w => decide (lastTime s.Cells w.Key < h.Time)) = ((h.Writes.drop r).all fun w => decide (lastTime s.Cells w.Key < h.Time))) (fun (r : Nat) => []) (fun (r : Nat) => [(64, AV.int r)]) (fun (r : Nat) => h.Writes.length - r) (0) ?_ (K0 ⟨rfl, rfl, rfl, rfl, rfl, rfl, rfl, rfl, rfl, rfl, rfl, rfl, rfl, rfl, rfl, rfl, rfl, rfl, rfl, rfl, rfl, rfl, rfl, rfl, rfl, rfl, rfl, rfl, rfl, trivial⟩) ?_
  ·exact ⟨Nat.zero_le _, rfl⟩
  intro r hinv
  refine A3 (A2 ?_)
  refine A1 rfl (K5 rfl (A0 rfl) (A0 rfl)) ?_
  refine A4 (A3 ?_)
  refine C4 (A0 rfl) ?_ ?_
  ·intro h65
   have k65 := of_decide_eq_true h65; try simp only [A9] at k65
   have hlt3 : r < h.Writes.length := by omega
   obtain ⟨w, hw⟩ := get_some hlt3
   refine C8 (A3 (D1 (A3 (A2 ?_))))
   refine A1 rfl (J4 rfl G0 H6 (A0 rfl) (A0 rfl) hw (by first | omega | (simp only [C9, A8, szR] at *; omega))) ?_
   refine A1 rfl (L4 rfl (A0 rfl) T9 H6) ?_
   refine G3 rfl rfl rfl rfl Tryz.zeroValue101 rfl ?_
   intro b8
   refine D7 0 rfl rfl rfl (A0 rfl) (A0 rfl) (F0 _) rfl H6 rfl ?_
   refine A4 (A3 ?_)
   refine J5 (by kernel_rfl) (by kernel_rfl) rfl ?_
   refine B2 rfl rfl (B1 1 rfl C0 rfl N2 (A0 rfl) rfl) ?_
   refine B2 rfl rfl (B0 2 rfl (A0 rfl) rfl O9 rfl) ?_
   refine B2 rfl rfl (B1 0 rfl H0 rfl E5 (A0 rfl) rfl) ?_
   refine B2 rfl rfl (B0 0 rfl (A0 rfl) rfl F7 rfl) ?_
   refine B2 rfl rfl (E8 rfl Tryz.call127 rfl (AF2 _ _ (by first | assumption | exact W9 (by rw [W8]; assumption)) (by first | assumption | omega)) (A7 (A0 rfl) (A7 (A0 rfl) C6))) ?_
   refine B2 rfl rfl (B1 1 rfl F5 rfl B4 (A0 rfl) rfl) ?_
   refine B2 rfl rfl (B0 1 rfl (A0 rfl) rfl C2 rfl) ?_
   refine B2 rfl rfl (c6 rfl (A0 rfl) (A0 rfl)) ?_
   refine P2 ?_
   refine C4 (A0 rfl) ?_ ?_
   ·intro h75
    have k75 := of_decide_eq_true h75; try simp only [A9] at k75
    have hfin : areHeld s = false := by (unfold areHeld; rw [Z5 hlt (by rw [AA8 hx hy, hinv.2, drop_some hw, List.all_cons, decide_eq_false (show ¬ lastTime s.Cells w.Key < h.Time by omega)]; simp)]; rfl)
    refine A3 (A2 ?_)
    refine A1 rfl (B7 rfl F8) ?_
    refine A4 ?_
    refine C5 ?_
    exact H9 rfl (B8 rfl (by first | exact congrArg AV.bool hfin.symm | exact congrArg AV.bool (by unfold areHeld; rw [hall, Bool.true_and, List.nil_append, A9]; congr 1; rw [decide_eq_decide]; omega)))
   intro h75
   have k75 := of_decide_eq_false h75; try simp only [A9] at k75
   refine C8 (A2 ?_)
   refine A1 rfl (G7 rfl (A0 rfl) B6 (by first | omega | (simp only [C9, A8, szR] at *; omega))) ?_
   refine A5 rfl ?_
   refine A4 ?_
   refine L9 r (r + 1) ?_ ?_ (U7 1 ⟨rfl, rfl, rfl, rfl, rfl, rfl, rfl, rfl, rfl, rfl, rfl, rfl, rfl, rfl, rfl, rfl, rfl, rfl, rfl, rfl, rfl, rfl, rfl, rfl, rfl, rfl, rfl, rfl, rfl, trivial⟩)
   ·exact ⟨by omega, by rw [hinv.2, drop_some hw, List.all_cons, decide_eq_true (show lastTime s.Cells w.Key < h.Time by omega)]; rfl⟩
   omega
  intro h65
  have k65 := of_decide_eq_false h65; try simp only [A9] at k65
  have hge3 : h.Writes.length ≤ r := by omega
  have hlw : (h.Writes.all fun w => decide (lastTime s.Cells w.Key < h.Time)) = true := by (rw [hinv.2, List.drop_eq_nil_of_le hge3]; rfl)
  refine G9 ?_
  refine A2 ?_
  refine A1 rfl (G7 rfl (A0 rfl) B6 (by first | omega | (simp only [C9, A8, szR] at *; omega))) ?_
  refine A5 rfl ?_
  refine A4 ?_
  refine L9 i (i + 1) ?_ ?_ (U7 1 ⟨rfl, rfl, rfl, rfl, trivial⟩)
  ·exact ⟨by omega, fun j hj => if hji : j < i then hinv0.2 j hji else (by have e : j = i := (by omega); subst e; rw [AA8 hx hy, h43, hap, hlw]; rfl)⟩
  omega
 intro h13
 have k13 := of_decide_eq_false h13; try simp only [A9] at k13
 have hge : s.Held.length ≤ i := by omega
 have hall : allB s.Held.length (heldAt s) = true := l9.2 fun j hj => hinv.2 j (by omega)
 refine G9 ?_
 refine A3 (A2 ?_)
 refine A1 rfl (B1 2 rfl C0 rfl G4 (A0 rfl) rfl) ?_
 refine A1 rfl (B0 0 rfl (A0 rfl) rfl L8 rfl) ?_
 refine A1 rfl (H2 rfl E0 (A0 rfl)) ?_
 refine A1 rfl (V0 rfl (A0 rfl) B6) ?_
 refine A5 rfl ?_
 refine D0 rfl (fun hc => G5 0 rfl (A0 rfl) rfl E6 C3 rfl) ?_
 refine D0 rfl (fun hc => E8 rfl Tryz.call179 rfl (AX2 s [] hs (by (have h9 := Af3 (Aw8 hall); have h8 := of_decide_eq_true hc; simp only [A9] at h8; simp only [L6]; omega))) (A7 (A6 rfl hc) (A7 AY5 C6))) ?_
 refine A1 rfl (I1 rfl (A0 rfl) (F9 rfl)) ?_
 refine B5 rfl ?_
 refine A4 ?_
 refine C5 ?_
 exact H9 rfl (B8 rfl (by first | exact congrArg AV.bool hfin.symm | exact congrArg AV.bool (by unfold areHeld; rw [hall, Bool.true_and, List.nil_append, A9]; congr 1; rw [decide_eq_decide]; omega)))
theorem AX3 (s : TState) (hs : s.size ≤ 1048576) : FSpec Tryz.prog 80 [AV.agg s.cs] (AV.bool (goodState s)) := by
 obtain ⟨hs1, hs2, hs3, hs4, hs5⟩ := W1 hs
 refine E9 Tryz.func80 rfl Tryz.ntmps80 rfl ?_
 refine A3 (A2 ?_)
 refine O3 rfl rfl rfl rfl (A0 rfl) ?_
 intro b1
 refine A1 rfl (B7 rfl F8) ?_
 refine A4 (A3 (A3 (A2 ?_)))
 refine A1 rfl (B1 0 rfl C0 rfl B4 (A0 rfl) rfl) ?_
 refine A1 rfl (B0 0 rfl (A0 rfl) rfl C2 rfl) ?_
 refine A1 rfl (E8 rfl Tryz.call124 rfl (Ap5 _) (A7 (A0 rfl) C6)) ?_
 refine A1 rfl (M5 rfl (A0 rfl)) ?_
 refine A5 rfl ?_
 refine H8 rfl (fun hc => B1 1 rfl C0 rfl N2 (A0 rfl) rfl) ?_
 refine H8 rfl (fun hc => B0 0 rfl (A6 rfl hc) rfl O9 rfl) ?_
 refine H8 rfl (fun hc => E8 rfl Tryz.call125 rfl (AQ1 _ (by first | assumption | omega)) (A7 (A6 rfl hc) C6)) ?_
 refine H8 rfl (fun hc => M5 rfl (A6 rfl hc)) ?_
 refine A1 rfl (R5 rfl (A0 rfl) (F9 rfl)) ?_
 refine A5 rfl ?_
 refine H8 rfl (fun hc => G5 0 rfl (A0 rfl) rfl E6 C3 rfl) ?_
 refine H8 rfl (fun hc => E8 rfl Tryz.call126 rfl (Ai0 s (W9 (by have h9 := hc; simp at h9; rw [W8]; exact h9.2)) (by have h9 := hc; simp at h9; have h8 := (Q8 (by rw [W8]; exact h9.2)).1; omega) hs) (A7 (A6 rfl hc) C6)) ?_
 refine H8 rfl (fun hc => M5 rfl (A6 rfl hc)) ?_
 refine A1 rfl (R5 rfl (A0 rfl) (F9 rfl)) ?_
 refine A5 rfl ?_
 refine H8 rfl (fun hc => B1 3 rfl C0 rfl N4 (A0 rfl) rfl) ?_
 refine H8 rfl (fun hc => B0 0 rfl (A6 rfl hc) rfl T4 rfl) ?_
 refine H8 rfl (fun hc => H2 rfl I0 (A6 rfl hc)) ?_
 refine H8 rfl (fun hc => O8 rfl (A6 rfl hc) B6) ?_
 refine A1 rfl (R5 rfl (A0 rfl) (F9 rfl)) ?_
 refine A4 ?_
 refine C4 (A0 rfl) ?_ ?_
 ·intro h29
  have hfin : goodState s = false := by (unfold goodState; simp only [Bool.or_eq_true, Bool.not_eq_true', decide_eq_true_eq, A9] at h29; rcases h29 with ((h | h) | h) | h; (rw [h]; rfl); (rw [W8, h]; simp); (rw [h]; simp); (rw [decide_eq_false (show ¬ s.Told.length ≤ 60 by omega)]; simp))
  refine A3 (A2 ?_)
  refine A1 rfl (B7 rfl F8) ?_
  refine A4 ?_
  refine C5 ?_
  exact H9 rfl (B8 rfl (by exact congrArg AV.bool hfin.symm))
 intro h29
 simp only [Bool.or_eq_false_iff, Bool.not_eq_false', decide_eq_false_iff_not, A9] at h29
 obtain ⟨⟨⟨q1, q2⟩, q3⟩, q4⟩ := h29
 have hco := W9 (by rw [W8]; exact q2)
 have hgs : goodState s = ((s.Cells.all fun c => decide (lastTime s.Cells c.Key ≤ s.Floor)) && allB s.Told.length (toldAt s)) := by (unfold goodState; rw [q1, W8, q2, q3, decide_eq_true (show s.Told.length ≤ 60 by omega)]; simp)
 refine C8 (A3 (A3 (A2 ?_)))
 refine A1 rfl (B1 1 rfl C0 rfl N2 (A0 rfl) rfl) ?_
 refine A1 rfl (B0 0 rfl (A0 rfl) rfl O9 rfl) ?_
 refine A1 rfl (H2 rfl C7 (A0 rfl)) ?_
 refine A1 rfl (B9 rfl B6) ?_
 refine A4 (D1 ?_)
 refine J6 [(1, _), (31, _), (32, _)] _ (fun (i : Nat) => i ≤ s.Cells.length ∧ (s.Cells.all fun c => decide (lastTime s.Cells c.Key ≤ s.Floor)) = ((s.Cells.drop i).all fun c => decide (lastTime s.Cells c.Key ≤ s.Floor))) (fun (i : Nat) => []) (fun (i : Nat) => [(33, AV.int i)]) (fun (i : Nat) => s.Cells.length - i) (0) ?_ (K0 ⟨rfl, rfl, rfl, rfl, trivial⟩) ?_
 ·exact ⟨Nat.zero_le _, rfl⟩
 intro i hinv
 refine A3 (A2 ?_)
 refine A1 rfl (K5 rfl (A0 rfl) (A0 rfl)) ?_
 refine A4 (A3 ?_)
 refine C4 (A0 rfl) ?_ ?_
 ·intro h34
  have k34 := of_decide_eq_true h34; try simp only [A9] at k34
  have hlt : i < s.Cells.length := by omega
  obtain ⟨c, hx⟩ := get_some hlt
  refine C8 (A3 (D1 (A3 (A2 ?_))))
  refine A1 rfl (J4 rfl C7 E2 (A0 rfl) (A0 rfl) hx (by first | omega | (simp only [C9, A8, szR] at *; omega))) ?_
  refine A1 rfl (L4 rfl (A0 rfl) S7 E2) ?_
  refine G3 rfl rfl rfl rfl Tryz.zeroValue125 rfl ?_
  intro b4
  refine D7 0 rfl rfl rfl (A0 rfl) (A0 rfl) (F0 _) rfl E2 rfl ?_
  refine A4 (A3 ?_)
  refine J5 (by kernel_rfl) (by kernel_rfl) rfl ?_
  refine B2 rfl rfl (B1 1 rfl C0 rfl N2 (A0 rfl) rfl) ?_
  refine B2 rfl rfl (B0 1 rfl (A0 rfl) rfl O9 rfl) ?_
  refine B2 rfl rfl (B1 0 rfl F4 rfl E5 (A0 rfl) rfl) ?_
  refine B2 rfl rfl (B0 0 rfl (A0 rfl) rfl F7 rfl) ?_
  refine B2 rfl rfl (E8 rfl Tryz.call127 rfl (AF2 _ _ (by first | assumption | exact W9 (by rw [W8]; assumption)) (by first | assumption | omega)) (A7 (A0 rfl) (A7 (A0 rfl) C6))) ?_
  refine B2 rfl rfl (B1 0 rfl C0 rfl B4 (A0 rfl) rfl) ?_
  refine B2 rfl rfl (B0 1 rfl (A0 rfl) rfl C2 rfl) ?_
  refine B2 rfl rfl (O8 rfl (A0 rfl) (A0 rfl)) ?_
  refine P2 ?_
  refine C4 (A0 rfl) ?_ ?_
  ·intro h44
   have k44 := of_decide_eq_true h44; try simp only [A9] at k44
   have hfin : goodState s = false := by (rw [hgs, hinv.2, drop_some hx, List.all_cons, decide_eq_false (show ¬ lastTime s.Cells c.Key ≤ s.Floor by omega)]; rfl)
   refine A3 (A2 ?_)
   refine A1 rfl (B7 rfl F8) ?_
   refine A4 ?_
   refine C5 ?_
   exact H9 rfl (B8 rfl (by exact congrArg AV.bool hfin.symm))
  intro h44
  have k44 := of_decide_eq_false h44; try simp only [A9] at k44
  refine C8 (A2 ?_)
  refine A1 rfl (G7 rfl (A0 rfl) B6 (by first | omega | (simp only [C9, A8, szR] at *; omega))) ?_
  refine A5 rfl ?_
  refine A4 ?_
  refine L9 i (i + 1) ?_ ?_ (U7 1 ⟨rfl, rfl, rfl, rfl, trivial⟩)
  ·exact ⟨by omega, by rw [hinv.2, drop_some hx, List.all_cons, decide_eq_true (show lastTime s.Cells c.Key ≤ s.Floor by omega)]; rfl⟩
  omega
 intro h34
 have k34 := of_decide_eq_false h34; try simp only [A9] at k34
 have hge : s.Cells.length ≤ i := by omega
 have hgs2 : goodState s = allB s.Told.length (toldAt s) := by (rw [hgs, hinv.2, List.drop_eq_nil_of_le hge]; rfl)
 refine G9 ?_
 refine A3 (A3 (A2 ?_))
 refine A1 rfl (B1 3 rfl C0 rfl N4 (A0 rfl) rfl) ?_
 refine A1 rfl (B0 0 rfl (A0 rfl) rfl T4 rfl) ?_
 refine A1 rfl (H2 rfl I0 (A0 rfl)) ?_
 refine A1 rfl (B9 rfl B6) ?_
 refine A4 (D1 ?_)
 refine J6 [(1, _), (47, _), (48, _)] _ (fun (q : Nat) => q ≤ s.Told.length ∧ ∀ j, j < q → toldAt s j = true) (fun (q : Nat) => []) (fun (q : Nat) => [(49, AV.int q)]) (fun (q : Nat) => s.Told.length - q) (0) ?_ (K0 ⟨rfl, rfl, rfl, rfl, trivial⟩) ?_
 ·exact ⟨Nat.zero_le _, fun j hj => by omega⟩
 intro q hinv
 refine A3 (A2 ?_)
 refine A1 rfl (K5 rfl (A0 rfl) (A0 rfl)) ?_
 refine A4 (A3 ?_)
 refine C4 (A0 rfl) ?_ ?_
 ·intro h50
  have k50 := of_decide_eq_true h50; try simp only [A9] at k50
  have hlt : q < s.Told.length := by omega
  obtain ⟨t, hx⟩ := get_some hlt
  obtain ⟨y, hy⟩ := get_some (show q - 1 < s.Told.length by omega)
  refine C8 (A3 (D1 (A3 (A2 ?_))))
  refine A5 rfl ?_
  refine A1 rfl (J4 rfl I0 K7 (A0 rfl) (A0 rfl) hx (by first | omega | (simp only [C9, A8, szR] at *; omega))) ?_
  refine A1 rfl (L4 rfl (A0 rfl) a7 K7) ?_
  refine G3 rfl rfl rfl rfl Tryz.zeroValue144 rfl ?_
  intro b6
  refine B5 rfl ?_
  refine D7 0 rfl rfl rfl (A0 rfl) (A0 rfl) (F0 _) rfl K7 rfl ?_
  refine A4 (A3 (A3 ?_))
  refine J5 (by kernel_rfl) (by kernel_rfl) rfl ?_
  refine B2 rfl rfl (B1 0 rfl K8 rfl B4 (A0 rfl) rfl) ?_
  refine B2 rfl rfl (B0 0 rfl (A0 rfl) rfl C2 rfl) ?_
  refine B2 rfl rfl (E8 rfl Tryz.call39 rfl (X7 _ _ _) (A7 (A0 rfl) (A7 B6 (A7 B6 C6)))) ?_
  refine B2 rfl rfl (M5 rfl (A0 rfl)) ?_
  refine B2 rfl rfl (B9 rfl (A0 rfl)) ?_
  refine D2 rfl (I4 rfl rfl rfl) (fun hc => B9 rfl (A0 rfl)) ?_
  refine D2 rfl (I4 rfl rfl rfl) (fun hc => O8 rfl (A6 rfl hc) B6) ?_
  refine D2 rfl (I4 rfl rfl rfl) (fun hc => B9 rfl (A6 rfl hc)) ?_
  refine D2 rfl (E1 rfl rfl rfl) (fun hc => B1 3 rfl C0 rfl N4 (A0 rfl) rfl) ?_
  refine D2 rfl (E1 rfl rfl rfl) (fun hc => B0 1 rfl (A6 rfl hc) rfl T4 rfl) ?_
  refine D2 rfl (E1 rfl rfl rfl) (fun hc => B9 rfl (A0 rfl)) ?_
  refine D2 rfl (E1 rfl rfl rfl) (fun hc => P9 rfl (A6 rfl hc) B6 (by first | omega | ((try simp only [C9, A8, szR] at *); omega) | (have hc2 := hc; simp only [P4, beq_iff_eq, bne_iff_ne, A9, E4] at hc2; omega))) ?_
  refine D2 rfl (E1 rfl rfl rfl) (fun hc => J4 rfl I0 K7 (A6 rfl hc) (A6 rfl hc) hy (by first | omega | ((try simp only [C9, A8, szR] at *); omega) | (have hc2 := hc; simp only [P4, beq_iff_eq, bne_iff_ne, A9, E4] at hc2; omega))) ?_
  refine D2 rfl (E1 rfl rfl rfl) (fun hc => V7 rfl K8 rfl B4 (A6 rfl hc) rfl) ?_
  refine D2 rfl (E1 rfl rfl rfl) (fun hc => N9 rfl (A6 rfl hc) C2 rfl) ?_
  refine D2 rfl (E1 rfl rfl rfl) (fun hc => B1 0 rfl K8 rfl B4 (A0 rfl) rfl) ?_
  refine D2 rfl (E1 rfl rfl rfl) (fun hc => B0 0 rfl (A6 rfl hc) rfl C2 rfl) ?_
  refine D2 rfl (E1 rfl rfl rfl) (fun hc => c6 rfl (A6 rfl hc) (A6 rfl hc)) ?_
  refine D2 rfl (I4 rfl rfl rfl) (fun hc => I1 rfl (A6 rfl hc) (Q0 rfl hc)) ?_
  refine B2 rfl rfl (R5 rfl (A0 rfl) (F9 rfl)) ?_
  refine B2 rfl rfl (B9 rfl (A0 rfl)) ?_
  refine D2 rfl (I4 rfl rfl rfl) (fun hc => B1 1 rfl K8 rfl J1 (A0 rfl) rfl) ?_
  refine D2 rfl (I4 rfl rfl rfl) (fun hc => B0 0 rfl (A6 rfl hc) rfl K9 rfl) ?_
  refine D2 rfl (I4 rfl rfl rfl) (fun hc => B9 rfl (A6 rfl hc)) ?_
  refine D2 rfl (E1 rfl rfl rfl) (fun hc => B1 2 rfl K8 rfl B4 (A0 rfl) rfl) ?_
  refine D2 rfl (E1 rfl rfl rfl) (fun hc => B0 0 rfl (A6 rfl hc) rfl C2 rfl) ?_
  refine D2 rfl (E1 rfl rfl rfl) (fun hc => B1 0 rfl C0 rfl B4 (A0 rfl) rfl) ?_
  refine D2 rfl (E1 rfl rfl rfl) (fun hc => B0 1 rfl (A6 rfl hc) rfl C2 rfl) ?_
  refine D2 rfl (E1 rfl rfl rfl) (fun hc => E8 rfl Tryz.call39 rfl (X7 _ _ _) (A7 (A6 rfl hc) (A7 B6 (A7 (A6 rfl hc) C6)))) ?_
  refine D2 rfl (E1 rfl rfl rfl) (fun hc => M5 rfl (A6 rfl hc)) ?_
  refine D2 rfl (I4 rfl rfl rfl) (fun hc => I1 rfl (A6 rfl hc) (Q0 rfl hc)) ?_
  refine B2 rfl rfl (R5 rfl (A0 rfl) (F9 rfl)) ?_
  refine B2 rfl rfl (B9 rfl (A0 rfl)) ?_
  refine D2 rfl (I4 rfl rfl rfl) (fun hc => B1 1 rfl K8 rfl J1 (A0 rfl) rfl) ?_
  refine D2 rfl (I4 rfl rfl rfl) (fun hc => B0 0 rfl (A6 rfl hc) rfl K9 rfl) ?_
  refine D2 rfl (I4 rfl rfl rfl) (fun hc => M5 rfl (A6 rfl hc)) ?_
  refine D2 rfl (I4 rfl rfl rfl) (fun hc => B9 rfl (A6 rfl hc)) ?_
  refine D2 rfl (E1 rfl rfl rfl) (fun hc => B1 2 rfl K8 rfl B4 (A0 rfl) rfl) ?_
  refine D2 rfl (E1 rfl rfl rfl) (fun hc => B0 0 rfl (A6 rfl hc) rfl C2 rfl) ?_
  refine D2 rfl (E1 rfl rfl rfl) (fun hc => n4 rfl (A6 rfl hc) B6) ?_
  refine D2 rfl (I4 rfl rfl rfl) (fun hc => I1 rfl (A6 rfl hc) (Q0 rfl hc)) ?_
  refine B2 rfl rfl (R5 rfl (A0 rfl) (F9 rfl)) ?_
  refine P2 ?_
  refine C4 (A0 rfl) ?_ ?_
  ·intro h95
   have hfin : goodState s = false := by (rw [hgs2]; exact Z5 hlt (by rw [AI8 hx hy, h95]; rfl))
   refine A3 (A2 ?_)
   refine A1 rfl (B7 rfl F8) ?_
   refine A4 ?_
   refine C5 ?_
   exact H9 rfl (B8 rfl (by exact congrArg AV.bool hfin.symm))
  intro h95
  refine C8 (A3 (A2 ?_))
  refine A1 rfl (G5 1 rfl (A0 rfl) rfl E6 C3 rfl) ?_
  refine A1 rfl (B1 0 rfl K8 rfl B4 (A0 rfl) rfl) ?_
  refine A1 rfl (B0 0 rfl (A0 rfl) rfl C2 rfl) ?_
  refine A1 rfl (E8 rfl Tryz.call128 rfl (AM8 _ _ (by first | assumption | omega)) (A7 (A0 rfl) (A7 (A0 rfl) C6))) ?_
  refine A5 rfl ?_
  refine A1 rfl (I8 rfl (A0 rfl) rfl) ?_
  refine A1 rfl (I8 rfl (A0 rfl) rfl) ?_
  refine G3 rfl rfl rfl rfl Tryz.zeroValue141 rfl ?_
  intro b7
  refine D7 0 rfl rfl rfl (A0 rfl) (A0 rfl) (F0 _) rfl D4 rfl ?_
  refine B5 rfl ?_
  refine A4 (A3 (A2 ?_))
  refine A5 rfl ?_
  refine A4 ?_
  refine C4 (A0 rfl) ?_ ?_
  ·intro h103
   have hfin : goodState s = false := by (rw [hgs2]; exact Z5 hlt (by rw [AI8 hx hy, ← AD7, h103]; simp))
   refine A3 (A2 ?_)
   refine A1 rfl (B7 rfl F8) ?_
   refine A4 ?_
   refine C5 ?_
   exact H9 rfl (B8 rfl (by exact congrArg AV.bool hfin.symm))
  intro h103
  refine C8 (A2 ?_)
  refine A1 rfl (G7 rfl (A0 rfl) B6 (by first | omega | (simp only [C9, A8, szR] at *; omega))) ?_
  refine A5 rfl ?_
  refine A4 ?_
  refine L9 q (q + 1) ?_ ?_ (U7 2 ⟨rfl, rfl, rfl, rfl, trivial⟩)
  ·exact ⟨by omega, fun j hj => if hji : j < q then hinv.2 j hji else (by have e : j = q := (by omega); subst e; rw [AI8 hx hy, h95, ← AD7, h103]; rfl)⟩
  omega
 intro h50
 have k50 := of_decide_eq_false h50; try simp only [A9] at k50
 have hge : s.Told.length ≤ q := by omega
 have hfin : goodState s = true := by (rw [hgs2]; exact l9.2 fun j hj => hinv.2 j (by omega))
 refine G9 ?_
 refine A3 (A2 ?_)
 refine A1 rfl (B7 rfl F8) ?_
 refine A4 ?_
 refine C5 ?_
 exact H9 rfl (B8 rfl (by exact congrArg AV.bool hfin.symm))
end Go.Proofs.YtkegepoihkhihaaGreat

namespace Go.Proofs.YtkegepoihkhihaaGreat
open Go Go.AV Go.M
attribute [local irreducible] OpW OpA OpS AWP FSpec ESpec GSpec OpE RetOk RetOkG RvDen Le Ev GuardIs SrcIs
end Go.Proofs.YtkegepoihkhihaaGreat

namespace Go.Proofs.YtkegepoihkhihaaGreat
open Go Go.AV Go.M
attribute [local irreducible] OpW OpA OpS AWP FSpec ESpec GSpec OpE RetOk RetOkG RvDen Le Ev GuardIs
end Go.Proofs.YtkegepoihkhihaaGreat

namespace Go.Proofs.YtkegepoihkhihaaGreat
open Go Go.AV Go.M
attribute [local irreducible] OpW OpA OpS AWP FSpec ESpec GSpec OpE RetOk RetOkG RvDen Le Ev GuardIs SrcIs
end Go.Proofs.YtkegepoihkhihaaGreat
