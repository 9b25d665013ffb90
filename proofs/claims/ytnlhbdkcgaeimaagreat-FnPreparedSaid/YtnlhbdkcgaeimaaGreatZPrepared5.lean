/- Texts of the claim, part 5. -/
import Derived.Test.YtnlhbdkcgaeimaaGreatZPrepared4

set_option linter.unusedVariables false
set_option linter.unusedSimpArgs false
set_option maxRecDepth 100000
set_option maxHeartbeats 4000000
namespace Go.Proofs.YtnlhbdkcgaeimaaGreat
open Go Go.AV Go.M
attribute [local irreducible] OpW OpA OpS AWP FSpec ESpec GSpec OpE RetOk RetOkG RvDen Le Ev GuardIs SrcIs
theorem Ax4 (l : List TCell) (w : List TWrite) (t : Int) (ho : CellsOk l) (hs : sizeL TCell.size l ≤ 1048576) (hw : sizeL TWrite.size w ≤ 1048576) (ht1 : 1 ≤ t) : GSpec Tryz.prog 205 [AV.list 2 (l.map TCell.cs), AV.list 3 (w.map TWrite.cs), AV.int t] [] (fun x : Value × List Value => x.2.length = (putP l w t).1.length) (fun x => .arr x.1 142 2 (nrows TCell.ocs (putP l w t).1 x.2) :: nin TCell.ow (putP l w t).1 x.2) (fun x => AV.tup [AV.is x.1, AV.bool (putP l w t).2]) := by
 have hwl : w.length ≤ 1048576 := Nat.le_trans O1 hw
 refine H7 Tryz.func205 rfl Tryz.ntmps205 rfl ?_
 refine A3 (A2 ?_)
 refine A1 rfl rfl rfl (C0 rfl K1) ?_
 refine A1 rfl rfl rfl (C0 rfl F3) ?_
 refine A4 (A3 (A2 ?_))
 refine A5 rfl rfl rfl rfl rfl ?_
 refine Ac3 [] 0 1 ([]) ([]) (fun zz => nin TCell.ow l zz.2) rfl rfl rfl rfl Tryz.call208 rfl rfl (show List.Perm ([]) (([]) ++ ([])) from List.Perm.refl _) (Ad8 l (by omega)) (A7 (A0 rfl) C9) (fun a => Ai4) ?_
 intro x15 ok15
 refine B5 rfl rfl rfl rfl rfl ?_
 refine A4 (A3 (A3 (A2 ?_)))
 refine A5 rfl rfl rfl rfl rfl ?_
 refine A1 rfl rfl rfl (I5 rfl F7 (A0 rfl)) ?_
 refine A1 rfl rfl rfl (C6 rfl C2) ?_
 refine A4 (E1 ?_)
 refine j6 [(2, _), (16, _), (17, _)] [] (fun (i : Nat) (v : Value) (q : List TCell) (xs : List Value) => i ≤ w.length ∧ xs.length = q.length ∧ CellsOk q ∧ sizeL TCell.size q ≤ 1048576 + 2 * sizeL TWrite.size (w.take i) ∧ putAll l w t = putAll q (w.drop i) t) (fun (i : Nat) (v : Value) (q : List TCell) (xs : List Value) => [.arr v 142 2 (nrows TCell.ocs q xs)] ++ (nin TCell.ow q xs)) (fun (i : Nat) (v : Value) (q : List TCell) (xs : List Value) => [(8, AV.is v), (18, AV.int i)]) (fun (i : Nat) (v : Value) (q : List TCell) (xs : List Value) => w.length - i) (0) (x15.1) (l) (x15.2) ?_ (S9 (by rw [List.append_nil]; rfl) ⟨rfl, rfl, rfl, rfl, rfl, trivial⟩) ?_
 ·exact ⟨Nat.zero_le _, ok15, ho, by omega, rfl⟩
 intro i v q xs hinv
 have hlen := hinv.2.1
 have hinvo := hinv
 have hrl : (nrows TCell.ocs q xs).length = q.length := Z5 hlen
 refine J3 (List.append_nil _) ?_
 refine A3 (A2 ?_)
 refine A1 rfl rfl rfl (L4 rfl (A0 rfl) (A0 rfl)) ?_
 refine A4 (A3 ?_)
 refine C8 (A0 rfl) ?_ ?_
 ·intro h19
  have k19 := of_decide_eq_true h19; try simp only [A6] at k19
  have hlt : i < w.length := by omega
  obtain ⟨x, hx⟩ := get_some hlt
  have htk := r5 (f := TWrite.size) (l := w) i
  have hso : sizeL TCell.size q ≤ 4194304 := by omega
  have hql : q.length ≤ 4194304 := Nat.le_trans O1 hso
  refine D2 (A3 (E1 (A3 (A2 ?_))))
  refine A1 rfl rfl rfl (K0 rfl F7 H4 (A0 rfl) (A0 rfl) hx (by first | omega | (simp only [A6, A8, B2, B6, A9, szR] at *; omega))) ?_
  refine A1 rfl rfl rfl (L8 rfl (A0 rfl) S5 H4) ?_
  refine G5 rfl rfl rfl rfl Tryz.zeroValue77 rfl ?_
  intro b10
  refine D9 0 rfl rfl rfl (A0 rfl) (A0 rfl) (E9 _) rfl H4 rfl ?_
  refine A4 (A3 (A2 ?_))
  refine A5 rfl rfl rfl rfl rfl ?_
  refine A1 rfl rfl rfl (B4 1 rfl G8 rfl E8 (A0 rfl) rfl) ?_
  refine A1 rfl rfl rfl (B3 0 rfl (A0 rfl) rfl H2 rfl) ?_
  refine A1 rfl rfl rfl (B4 2 rfl G8 rfl I8 (A0 rfl) rfl) ?_
  refine A1 rfl rfl rfl (B3 0 rfl (A0 rfl) rfl L2 rfl) ?_
  refine A1 rfl rfl rfl (M7 (places := #[(0, 1), (1, 1), (2, 1)]) rfl O9 Tryz.zeroValue197 (fun w => by kernel_rfl) rfl (D7 (A0 rfl) (K6 _ _) (D7 (A0 rfl) (O0 _) (D7 (A0 rfl) (Y2 _) H6))) rfl) ?_
  refine G5 rfl rfl rfl rfl Tryz.zeroValue197 rfl ?_
  intro b11
  refine D9 0 rfl rfl rfl (A0 rfl) (A0 rfl) (E9 _) rfl O6 rfl ?_
  refine A4 (A3 (A2 ?_))
  refine A5 rfl rfl rfl rfl rfl ?_
  refine A1 rfl rfl rfl (U1 2 rfl D6 (A0 rfl) rfl) ?_
  refine B5 rfl rfl rfl rfl rfl ?_
  refine A4 (A3 (E1 ?_))
  refine K8 [(2, _), (8, _), (10, _), (11, _), (16, _), (17, _), (18, _), (19, _), (20, _), (21, _), (22, _), (23, _), (24, _), (25, _), (26, _), (27, _), (28, _), (29, _)] _ (fun (j : Nat) => j ≤ q.length ∧ ∀ (a : Nat) (c : TCell), j ≤ a → q[a]? = some c → Op.bytesLess x.Key c.Key = true) (fun (j : Nat) => []) (fun (j : Nat) => [(12, AV.int j)]) (fun (j : Nat) => j) (q.length) ?_ (L0 ⟨congrArg (fun z : Nat => some (AV.int z)) hrl, rfl, rfl, rfl, rfl, rfl, rfl, rfl, rfl, rfl, rfl, rfl, rfl, rfl, rfl, rfl, rfl, rfl, rfl, trivial⟩) ?_
  ·exact ⟨Nat.le_refl _, fun a c ha hc => by have := (List.getElem?_eq_some_iff.1 hc).1; omega⟩
  intro j hinv
  obtain ⟨c, hc0⟩ := AB1 q (j - 1)
  obtain ⟨y, hy0⟩ : ∃ y, j - 1 < xs.length → xs[j - 1]? = some y := ⟨xs[j - 1]?.getD (.int .i64 0), fun h => by rw [List.getElem?_eq_getElem h]; rfl⟩
  have hj1 : 0 < j → ((j : Int) - 1).toNat = j - 1 := fun _ => by omega
  have hrow0 : 0 < j → (nrows TCell.ocs q xs)[((j : Int) - 1).toNat]? = some (TCell.ocs c y) := fun h => by rw [hj1 h]; exact Ac4 (hc0 (by omega)) (hy0 (by omega))
  refine A3 (A3 ?_)
  refine K9 (by kernel_rfl) (by kernel_rfl) rfl ?_
  refine B7 rfl rfl (C6 rfl (A0 rfl)) ?_
  refine B7 rfl rfl (P1 rfl (A0 rfl) C2) ?_
  refine B7 rfl rfl (C6 rfl (A0 rfl)) ?_
  refine E0 rfl (B9 rfl rfl rfl) (fun hc => C6 rfl (A0 rfl)) ?_
  refine E0 rfl (B9 rfl rfl rfl) (fun hc => C6 rfl (A0 rfl)) ?_
  refine E0 rfl (B9 rfl rfl rfl) (fun hc => P8 rfl (B0 rfl hc) C2 (by first | omega | ((try simp only [A6, A8, B2, B6, A9, szR] at *); omega) | (have hc2 := hc; simp only [Bool.and_eq_true, Bool.or_eq_true, Bool.or_eq_false_iff, Bool.and_eq_false_iff, Bool.not_eq_true', Bool.not_eq_false', decide_eq_true_eq, decide_eq_false_iff_not, beq_iff_eq, bne_iff_ne, A6, A8] at hc2; omega))) ?_
  refine E0 rfl (B9 rfl rfl rfl) (fun hc => R9 2 rfl D6 F2 (B0 rfl hc) rfl (B0 rfl hc) (by first | omega | ((try simp only [A6, A8, B2, B6, A9, szR] at *); omega) | (have hc2 := hc; simp only [Bool.and_eq_true, Bool.or_eq_true, Bool.or_eq_false_iff, Bool.and_eq_false_iff, Bool.not_eq_true', Bool.not_eq_false', decide_eq_true_eq, decide_eq_false_iff_not, beq_iff_eq, bne_iff_ne, A6, A8] at hc2; omega)) (by first | omega | ((try simp only [A6, A8, B2, B6, A9, szR] at *); omega) | (have hc2 := hc; simp only [Bool.and_eq_true, Bool.or_eq_true, Bool.or_eq_false_iff, Bool.and_eq_false_iff, Bool.not_eq_true', Bool.not_eq_false', decide_eq_true_eq, decide_eq_false_iff_not, beq_iff_eq, bne_iff_ne, A6, A8] at hc2; omega))) ?_
  refine E0 rfl (B9 rfl rfl rfl) (fun hc => Z4 2 rfl G9 rfl E8 (B0 rfl hc) rfl rfl (hrow0 (by first | omega | ((try simp only [A6, A8, B2, B6, A9, szR] at *); omega) | (have hc2 := hc; simp only [Bool.and_eq_true, Bool.or_eq_true, Bool.or_eq_false_iff, Bool.and_eq_false_iff, Bool.not_eq_true', Bool.not_eq_false', decide_eq_true_eq, decide_eq_false_iff_not, beq_iff_eq, bne_iff_ne, A6, A8] at hc2; omega)))) ?_
  refine E0 rfl (B9 rfl rfl rfl) (fun hc => i4 2 rfl (B0 rfl hc) rfl H2 (hrow0 (by first | omega | ((try simp only [A6, A8, B2, B6, A9, szR] at *); omega) | (have hc2 := hc; simp only [Bool.and_eq_true, Bool.or_eq_true, Bool.or_eq_false_iff, Bool.and_eq_false_iff, Bool.not_eq_true', Bool.not_eq_false', decide_eq_true_eq, decide_eq_false_iff_not, beq_iff_eq, bne_iff_ne, A6, A8] at hc2; omega))) rfl) ?_
  refine E0 rfl (B9 rfl rfl rfl) (fun hc => B4 0 rfl G8 rfl E8 (A0 rfl) rfl) ?_
  refine E0 rfl (B9 rfl rfl rfl) (fun hc => B3 1 rfl (B0 rfl hc) rfl H2 rfl) ?_
  refine E0 rfl (B9 rfl rfl rfl) (fun hc => Ag7 rfl (B0 rfl hc) (B0 rfl hc)) ?_
  refine B7 rfl rfl (I3 rfl (A0 rfl) (G0 rfl)) ?_
  refine P7 ?_
  refine C8 (A0 rfl) ?_ ?_
  ·intro h42
   have hgt : 0 < j ∧ Op.bytesLess x.Key c.Key = true := by rw [Q4]; simpa using h42
   refine D2 (E1 (A2 ?_))
   refine A5 rfl rfl rfl rfl rfl ?_
   refine A1 rfl rfl rfl (P8 rfl (A0 rfl) C2 (by first | omega | (simp only [A6, A8, B2, B6, A9, szR] at *; omega))) ?_
   refine B5 rfl rfl rfl rfl rfl ?_
   refine A4 ?_
   refine j3 ?_
   refine N0 j (j - 1) ?_ ?_ (L0 ⟨congrArg (fun z : Int => some (AV.int z)) (by omega), rfl, rfl, rfl, rfl, rfl, rfl, rfl, rfl, rfl, rfl, rfl, rfl, rfl, rfl, rfl, rfl, rfl, rfl, trivial⟩)
   ·exact ⟨by omega, fun a c' ha hc' => if h9 : j ≤ a then hinv.2 a c' h9 hc' else (by have e : a = j - 1 := (by omega); subst e; rw [hc0 (by omega)] at hc'; injection hc' with hc'; subst hc'; exact hgt.2)⟩
   ·omega
  ·intro h42
   have hng : 0 < j → Op.bytesLess x.Key c.Key = false := fun h => by rw [Q4]; simpa [h] using h42
   refine I1 ?_
   refine A3 (A3 ?_)
   refine K9 (by kernel_rfl) (by kernel_rfl) rfl ?_
   refine B7 rfl rfl (C6 rfl (A0 rfl)) ?_
   refine B7 rfl rfl (P1 rfl (A0 rfl) C2) ?_
   refine B7 rfl rfl (C6 rfl (A0 rfl)) ?_
   refine E0 rfl (B9 rfl rfl rfl) (fun hc => C6 rfl (A0 rfl)) ?_
   refine E0 rfl (B9 rfl rfl rfl) (fun hc => C6 rfl (A0 rfl)) ?_
   refine E0 rfl (B9 rfl rfl rfl) (fun hc => P8 rfl (B0 rfl hc) C2 (by first | omega | ((try simp only [A6, A8, B2, B6, A9, szR] at *); omega) | (have hc2 := hc; simp only [Bool.and_eq_true, Bool.or_eq_true, Bool.or_eq_false_iff, Bool.and_eq_false_iff, Bool.not_eq_true', Bool.not_eq_false', decide_eq_true_eq, decide_eq_false_iff_not, beq_iff_eq, bne_iff_ne, A6, A8] at hc2; omega))) ?_
   refine E0 rfl (B9 rfl rfl rfl) (fun hc => R9 2 rfl D6 F2 (B0 rfl hc) rfl (B0 rfl hc) (by first | omega | ((try simp only [A6, A8, B2, B6, A9, szR] at *); omega) | (have hc2 := hc; simp only [Bool.and_eq_true, Bool.or_eq_true, Bool.or_eq_false_iff, Bool.and_eq_false_iff, Bool.not_eq_true', Bool.not_eq_false', decide_eq_true_eq, decide_eq_false_iff_not, beq_iff_eq, bne_iff_ne, A6, A8] at hc2; omega)) (by first | omega | ((try simp only [A6, A8, B2, B6, A9, szR] at *); omega) | (have hc2 := hc; simp only [Bool.and_eq_true, Bool.or_eq_true, Bool.or_eq_false_iff, Bool.and_eq_false_iff, Bool.not_eq_true', Bool.not_eq_false', decide_eq_true_eq, decide_eq_false_iff_not, beq_iff_eq, bne_iff_ne, A6, A8] at hc2; omega))) ?_
   refine E0 rfl (B9 rfl rfl rfl) (fun hc => Z4 2 rfl G9 rfl E8 (B0 rfl hc) rfl rfl (hrow0 (by first | omega | ((try simp only [A6, A8, B2, B6, A9, szR] at *); omega) | (have hc2 := hc; simp only [Bool.and_eq_true, Bool.or_eq_true, Bool.or_eq_false_iff, Bool.and_eq_false_iff, Bool.not_eq_true', Bool.not_eq_false', decide_eq_true_eq, decide_eq_false_iff_not, beq_iff_eq, bne_iff_ne, A6, A8] at hc2; omega)))) ?_
   refine E0 rfl (B9 rfl rfl rfl) (fun hc => i4 2 rfl (B0 rfl hc) rfl H2 (hrow0 (by first | omega | ((try simp only [A6, A8, B2, B6, A9, szR] at *); omega) | (have hc2 := hc; simp only [Bool.and_eq_true, Bool.or_eq_true, Bool.or_eq_false_iff, Bool.and_eq_false_iff, Bool.not_eq_true', Bool.not_eq_false', decide_eq_true_eq, decide_eq_false_iff_not, beq_iff_eq, bne_iff_ne, A6, A8] at hc2; omega))) rfl) ?_
   refine E0 rfl (B9 rfl rfl rfl) (fun hc => B4 0 rfl G8 rfl E8 (A0 rfl) rfl) ?_
   refine E0 rfl (B9 rfl rfl rfl) (fun hc => B3 1 rfl (B0 rfl hc) rfl H2 rfl) ?_
   refine E0 rfl (B9 rfl rfl rfl) (fun hc => w4 rfl (B0 rfl hc) (B0 rfl hc)) ?_
   refine B7 rfl rfl (I3 rfl (A0 rfl) (G0 rfl)) ?_
   refine P7 ?_
   refine C8 (A0 rfl) ?_ ?_
   ·intro h57
    have hf : 0 < j ∧ c.Key = x.Key := by simpa using h57
    have hc := hc0 (by omega)
    have hy := hy0 (by omega)
    have hins := Ai3 hinvo.2.2.1.1 hc hf.2 ⟨t, x.Val, x.Gone⟩
    refine A3 (A3 (A2 ?_))
    refine A5 rfl rfl rfl rfl rfl ?_
    refine A1 rfl rfl rfl (B4 0 rfl G8 rfl E8 (A0 rfl) rfl) ?_
    refine A1 rfl rfl rfl (B3 1 rfl (A0 rfl) rfl H2 rfl) ?_
    refine A1 rfl rfl rfl (V3 rfl Tryz.call203 rfl (AE7 q x.Key hinvo.2.2.1 hso) (F4 _ _) (M5 (f9 (A0 rfl) (i7 TCell.lcM (by first | exact hlen | exact hlen.trans (n2 _ _).symm) 2 rfl (fun o ho => List.mem_of_mem_drop (i := 3) (show o ∈ nin TCell.ow q xs from by first | exact ho | exact List.mem_append_left _ ho | exact List.mem_append_right _ ho | exact List.mem_append_right _ (List.mem_append_left _ ho) | exact List.mem_append_right _ (List.mem_append_right _ ho))))) (M5 (evb (A0 rfl)) T1))) ?_
    refine A5 rfl rfl rfl rfl rfl ?_
    refine A1 rfl rfl rfl (d7 rfl (A0 rfl) (A0 rfl)) ?_
    refine A4 ?_
    refine C8 (A0 rfl) ?_ ?_
    ·intro h63
     have k63 := of_decide_eq_true h63; try simp only [A6] at k63
     have he : putP l w t = ([], false) := by unfold putP; rw [Ak6 hinvo.2.2.2.2 hx k63]
     rw [he]
     refine A3 (A2 ?_)
     refine A1 rfl rfl rfl (C0 rfl K1) ?_
     refine A1 rfl rfl rfl (C0 rfl F3) ?_
     refine A4 ?_
     refine C7 ?_
     refine T7 142 2 ?_
     first | exact J6 [0] ((Value.slice none 0 0), []) (rfl) rfl (by rfl) (S8 rfl (by decide) (E4 (C3 rfl (by rfl)) (E4 (C3 rfl (by rfl)) J0))) | exact n9 [0] 3 (nin TCell.ow q xs) [] ((Value.slice none 0 0), []) (rfl) rfl (show List.Perm (nin TCell.ow q xs) ((nin TCell.ow q xs) ++ []) from c5) (by rfl) (S8 rfl (by decide) (E4 (C3 rfl (by rfl)) (E4 (C3 rfl (by rfl)) J0))) | exact J6 [0] ((Value.slice none 0 0), xs) (hinv.2.1) rfl (by rfl) (S8 rfl (by decide) (E4 (C3 rfl (by rfl)) (E4 (C3 rfl (by rfl)) J0))) | exact n9 [0] 3 (nin TCell.ow q xs) [] ((Value.slice none 0 0), xs) (hinv.2.1) rfl (show List.Perm (nin TCell.ow q xs) ((nin TCell.ow q xs) ++ []) from c5) (by rfl) (S8 rfl (by decide) (E4 (C3 rfl (by rfl)) (E4 (C3 rfl (by rfl)) J0)))
    ·intro h63
     have k63 := of_decide_eq_false h63; try simp only [A6] at k63
     have hnt : ¬ t ≤ lastTime q x.Key := k63
     have hpo := (List.getElem?_eq_some_iff.1 hc).1
     have hA : (nrows TCell.ocs (q.take (j - 1)) (xs.take (j - 1))).length = ((j : Int) - 1).toNat := (AV5 (ocs := TCell.ocs) hc hy).trans (hj1 hf.1).symm
     obtain ⟨fx, hto⟩ : ∃ fx, RowsTo (nrows TCell.ocs (q.take (j - 1)) (xs.take (j - 1))) c.Key (c.Vers.map TVer.cs ++ [TVer.cs ⟨t, x.Val, x.Gone⟩]) (nrows TCell.ocs (q.drop (j - 1 + 1)) (xs.drop (j - 1 + 1))) (nin TCell.ow (q.eraseIdx (j - 1)) (xs.eraseIdx (j - 1))) (putC1 q x t) fx := ⟨_, by have h7 := AW5 hc hy hlen ⟨t, x.Val, x.Gone⟩; unfold putC1; rw [hins]; rw [hf.2] at h7 ⊢; exact h7⟩
     have hcs := f7 (Nat.le_trans (W6 hc) hso)
     rw [u7 hc hy]
     refine AWP.le (j9 3 (t := (TCell.ow c y) ++ (nin TCell.ow (q.eraseIdx (j - 1)) (xs.eraseIdx (j - 1)))) (AF3 (ow := TCell.ow) hc hy)) ?_
     refine D2 (A3 ?_)
     refine AWP.le (J2 [0, 1, 1] rfl) ?_
     refine S0 _ [(0, false), (1, false), (2, false), (3, false), (4, false), (5, false), (6, false), (7, false), (8, false), (9, false), (10, false), (11, true)] (by kernel_rfl) (by kernel_rfl) rfl (X7 2) ?_
     refine F9 rfl rfl rfl (fun ext => C6 rfl (A0 rfl)) ?_
     refine F9 rfl rfl rfl (fun ext => C6 rfl (A0 rfl)) ?_
     refine F9 rfl rfl rfl (fun ext => P8 rfl (A0 rfl) C2 (by first | omega | (simp only [A6, A8, B2, B6, A9, szR] at *; omega))) ?_
     refine F9 rfl rfl rfl (fun ext => C6 rfl (A0 rfl)) ?_
     refine F9 rfl rfl rfl (fun ext => C6 rfl (A0 rfl)) ?_
     refine F9 rfl rfl rfl (fun ext => P8 rfl (A0 rfl) C2 (by first | omega | (simp only [A6, A8, B2, B6, A9, szR] at *; omega))) ?_
     refine F9 rfl rfl rfl (fun ext => R9 1 rfl D6 F2 (A0 rfl) rfl (A0 rfl) (by omega) (by rw [H9, B2]; omega)) ?_
     refine F9 rfl rfl rfl (fun ext => Z4 1 rfl G9 rfl M1 (A0 rfl) rfl rfl (V1 hA)) ?_
     refine F9 rfl rfl rfl (fun ext => i4 1 rfl (A0 rfl) rfl Q6 (V1 hA) rfl) ?_
     refine F9 rfl rfl rfl (fun ext => F8 0 rfl (A0 rfl) rfl Tryz.isAgg197 O6 rfl) ?_
     refine F9 rfl rfl rfl (fun ext => M8 rfl I6 O6 Tryz.zeroValue197 rfl rfl rfl rfl (D7 (A0 rfl) (E9 _) H6) rfl rfl) ?_
     refine T5 rfl rfl rfl (Q1 (by' := 32) 2 rfl I6 Tryz.type197 rfl rfl rfl rfl rfl rfl (A0 rfl) (A0 rfl) rfl (by first | omega | (simp only [A6, A8, B2, B6, A9, szR] at *; omega))) (fun a _ => (by first | exact G1 rfl | exact G1 (List.append_assoc _ _ _) | exact J1)) ?_
     intro v75_2 _
     refine j4 ?_
     refine A1 rfl rfl rfl (R9 1 rfl D6 F2 (A0 rfl) rfl (A0 rfl) (by omega) (by rw [H9, B2]; omega)) ?_
     refine A1 rfl rfl rfl (Z4 1 rfl G9 rfl M1 (A0 rfl) rfl rfl (V1 hA)) ?_
     refine Q8 2 rfl fun one_v75_2 => ?_
     refine d9 1 rfl rfl rfl (A0 rfl) (A0 rfl) (R5 one_v75_2) rfl M1 hA rfl ?_
     refine A4 ?_
     refine I1 ?_
     refine J3 (by first | (simp only [List.singleton_append, pick, O2, N7, N8, N5, M9, List.nil_append, O3, O4, List.append_nil, N6, List.take_zero, N9, List.drop_zero]; exact rfl) | exact rfl) ?_
     refine AWP.le (J2 [0, 0, 1, 0] rfl) ?_
     refine AWP.le (j9 3 (t := nin TCell.ow (putC1 q x t) (fx v75_2)) ((hto v75_2).2.2)) ?_
     refine A2 ?_
     refine A1 rfl rfl rfl (H0 rfl (A0 rfl) C2 (by first | omega | (simp only [A6, A8, B2, B6, A9, szR] at *; omega))) ?_
     refine A5 rfl rfl rfl rfl rfl ?_
     refine A4 ?_
     refine V6 i v q xs (i + 1) (v) (putC1 q x t) (fx v75_2) ?_ ?_ (Le.trans (J2 [0, 1, 0] rfl) (N4 2 (Eq.trans (by first | exact congrArg (fun z => Own.arr _ _ _ z :: _) (hto v75_2).2.1 | exact congrArg (fun z => Own.arr _ _ _ z :: _) (by first | (rw [List.nil_append, List.append_assoc]; exact (hto v75_2).2.1) | (rw [List.append_assoc]; exact (hto v75_2).2.1))) (List.append_nil _).symm) ⟨rfl, rfl, rfl, rfl, rfl, trivial⟩))
     ·exact ⟨by omega, (hto _).1, e9 hinvo.2.2.1 _ _, by have h8 := i6 q x t; have h9 := c9 (f := TWrite.size) hx; omega, t1 hinvo.2.2.2.2 hx hnt⟩
     ·omega
   ·intro h57
    have hnf : 0 < j → c.Key ≠ x.Key := fun h => by simpa [h] using h57
    obtain ⟨hins, hl0⟩ := scan_new hinvo.2.2.1.1 hinv.1 hinv.2 (fun z hz hzz => by rw [hc0 (by omega)] at hzz; injection hzz with hzz; subst hzz; rw [Q4, hng hz]; simpa using fun e => hnf hz e.symm) ⟨t, x.Val, x.Gone⟩
    have hnt : ¬ t ≤ lastTime q x.Key := by rw [hl0]; omega
    obtain ⟨fx, hto⟩ : ∃ fx, RowsTo ((nrows TCell.ocs q xs).take j) x.Key [TVer.cs ⟨t, x.Val, x.Gone⟩] ((nrows TCell.ocs q xs).drop j) (nin TCell.ow q xs) (putC1 q x t) fx := ⟨_, by unfold putC1; rw [hins]; exact AW6 hinv.1 hlen _ _⟩
    refine D2 (A3 ?_)
    refine AWP.le (Y6 [2] 8 rfl rfl (M2 (G2 (i := 0) rfl) I7) R7) ?_
    refine A2 ?_
    refine R8 rfl rfl rfl rfl D6 F2 ?_
    intro v78
    refine A5 rfl rfl rfl rfl rfl ?_
    refine A5 rfl rfl rfl rfl rfl ?_
    refine A1 rfl rfl rfl (Ah4 rfl D6 F2 (A0 rfl) (A0 rfl) (by omega) (by rw [hrl]; omega)) ?_
    refine M6 (by' := 40) 0 rfl rfl rfl rfl D6 Tryz.type142 rfl rfl rfl rfl rfl rfl (A0 rfl) (A0 rfl) rfl (by simp only [B6, List.nil_append, H9, A8, List.length_drop, B2, A9, hrl]; omega) ?_
    intro v82_3
    refine B5 rfl rfl rfl rfl rfl ?_
    refine A4 ?_
    refine AWP.le (Y6 [0] 13 rfl rfl (M2 (G2 (i := 0) rfl) I7) R7) ?_
    refine AWP.le (J2 [0, 0] rfl) ?_
    refine e6 _ 14 (.pure 1 (.pure 2 (.pure 3 (.pure 5 (.pure 6 (.pure 7 (.pure 12 (.e2 0 (.e2 4 (.e1 8 (.pure 9 (.pure 10 (.e1 11 (.e1 13 .nil))))) 8 (.pure 9 (.pure 10 (.e1 4 (.e1 11 (.e1 13 .nil)))))) 8 (.pure 9 (.pure 10 (.e1 0 (.e1 4 (.e1 11 (.e1 13 .nil)))))))))))))) (by kernel_rfl) (by kernel_rfl) rfl (X7 2) ?_
    refine K7 rfl rfl rfl (fun ext => C6 rfl (A0 rfl)) ?_
    refine K7 rfl rfl rfl (fun ext => C6 rfl (A0 rfl)) ?_
    refine K7 rfl rfl rfl (fun ext => Ah3 rfl D6 F2 (A0 rfl) (A0 rfl) (by omega) (by rw [hrl]; omega)) ?_
    refine K7 rfl rfl rfl (fun ext => B4 0 rfl G8 rfl E8 (A0 rfl) rfl) ?_
    refine K7 rfl rfl rfl (fun ext => B3 1 rfl (A0 rfl) rfl H2 rfl) ?_
    refine K7 rfl rfl rfl (fun ext => F8 0 rfl (A0 rfl) rfl Tryz.isAgg197 O6 rfl) ?_
    refine K7 rfl rfl rfl (fun ext => C6 rfl (A0 rfl)) ?_
    refine AV3 ?_ ?_
    ·refine V2 rfl rfl rfl (AB2 2 <| g8 rfl D6 F2) (fun a _ => (by first | exact G1 rfl | exact G1 (List.append_assoc _ _ _) | exact J1)) ?_
     intro v83 _
     refine AV3 ?_ ?_
     ·refine V2 rfl rfl rfl (Q1 (by' := 40) 2 rfl D6 Tryz.type142 rfl rfl rfl rfl rfl rfl (A0 rfl) (A0 rfl) rfl (by simp only [B6, List.nil_append, H9, A8, List.length_drop, B2, A9, hrl]; omega)) (fun a _ => (by first | exact G1 rfl | exact G1 (List.append_assoc _ _ _) | exact J1)) ?_
      intro v87_4 _
      refine Z8 ?_
      refine V2 rfl rfl rfl (n1 3 (fun _ => rfl) (AB2 3 <| AA3 rfl I6 O6 Tryz.zeroValue197 rfl rfl rfl rfl (D7 (A0 rfl) (E9 _) H6) rfl rfl)) (fun a _ => (by first | exact G1 rfl | exact G1 (List.append_assoc _ _ _) | exact J1)) ?_
      intro v91 hone_v91
      have one_v91 := hone_v91.2
      refine K7 rfl rfl rfl (fun ext => M7 (places := #[(0, 1), (1, 1)]) rfl G9 Tryz.zeroValue142 (fun w => by kernel_rfl) rfl (D7 (A0 rfl) (O0 _) (D7 (A0 rfl) (R5 one_v91) H6)) rfl) ?_
      refine K7 rfl rfl rfl (fun ext => M8 rfl D6 F2 Tryz.zeroValue142 rfl rfl rfl rfl (D7 (A0 rfl) (E9 _) H6) rfl rfl) ?_
      refine Z8 ?_
      refine V2 rfl rfl rfl (Q1 (by' := 40) 2 rfl D6 Tryz.type142 rfl rfl rfl rfl rfl rfl (A0 rfl) (A0 rfl) rfl (by simp only [B6, List.nil_append, H9, A8, List.length_drop, B2, A9, hrl]; omega)) (fun a _ => (by first | exact G1 rfl | exact G1 (List.append_assoc _ _ _) | exact J1)) ?_
      intro v94_5 _
      refine Z8 ?_
      refine V2 rfl rfl rfl (Q1 (by' := 40) 2 rfl D6 Tryz.type142 rfl rfl rfl rfl rfl rfl (A0 rfl) (A0 rfl) rfl (by simp only [B6, List.nil_append, H9, A8, List.length_drop, B2, A9, hrl]; omega)) (fun a _ => (by first | exact G1 rfl | exact G1 (List.append_assoc _ _ _) | exact J1)) ?_
      intro v96_6 _
      refine m0 ?_
      refine B5 rfl rfl rfl rfl rfl ?_
      refine A4 ?_
      refine J3 (by first | (simp only [List.singleton_append, pick, O2, N7, N8, N5, M9, List.nil_append, O3, O4, List.append_nil, N6, List.take_zero, N9, List.drop_zero]; exact rfl) | exact rfl) ?_
      refine AWP.le (J2 [0, 0, 0, 0] rfl) ?_
      refine AWP.le (j9 3 (t := nin TCell.ow (putC1 q x t) (fx v91)) ((hto v91).2.2)) ?_
      refine A2 ?_
      refine A1 rfl rfl rfl (H0 rfl (A0 rfl) C2 (by first | omega | (simp only [A6, A8, B2, B6, A9, szR] at *; omega))) ?_
      refine A5 rfl rfl rfl rfl rfl ?_
      refine A4 ?_
      refine V6 i v q xs (i + 1) (v96_6) (putC1 q x t) (fx v91) ?_ ?_ (Le.trans (J2 [0, 0, 0] rfl) (N4 2 (Eq.trans (by first | exact congrArg (fun z => Own.arr _ _ _ z :: _) (hto v91).2.1 | exact congrArg (fun z => Own.arr _ _ _ z :: _) (by first | (rw [List.nil_append, List.append_assoc]; exact (hto v91).2.1) | (rw [List.append_assoc]; exact (hto v91).2.1))) (List.append_nil _).symm) ⟨rfl, rfl, rfl, rfl, rfl, trivial⟩))
      ·exact ⟨by omega, (hto _).1, e9 hinvo.2.2.1 _ _, by have h8 := i6 q x t; have h9 := c9 (f := TWrite.size) hx; omega, t1 hinvo.2.2.2.2 hx hnt⟩
      ·omega
     ·refine V2 rfl rfl rfl (n1 3 (fun _ => rfl) (AB2 3 <| AA3 rfl I6 O6 Tryz.zeroValue197 rfl rfl rfl rfl (D7 (A0 rfl) (E9 _) H6) rfl rfl)) (fun a _ => (by first | exact G1 rfl | exact G1 (List.append_assoc _ _ _) | exact J1)) ?_
      intro v91 hone_v91
      have one_v91 := hone_v91.2
      refine K7 rfl rfl rfl (fun ext => M7 (places := #[(0, 1), (1, 1)]) rfl G9 Tryz.zeroValue142 (fun w => by kernel_rfl) rfl (D7 (A0 rfl) (O0 _) (D7 (A0 rfl) (R5 one_v91) H6)) rfl) ?_
      refine K7 rfl rfl rfl (fun ext => M8 rfl D6 F2 Tryz.zeroValue142 rfl rfl rfl rfl (D7 (A0 rfl) (E9 _) H6) rfl rfl) ?_
      refine Z8 ?_
      refine V2 rfl rfl rfl (Q1 (by' := 40) 2 rfl D6 Tryz.type142 rfl rfl rfl rfl rfl rfl (A0 rfl) (A0 rfl) rfl (by simp only [B6, List.nil_append, H9, A8, List.length_drop, B2, A9, hrl]; omega)) (fun a _ => (by first | exact G1 rfl | exact G1 (List.append_assoc _ _ _) | exact J1)) ?_
      intro v87_7 _
      refine Z8 ?_
      refine V2 rfl rfl rfl (Q1 (by' := 40) 2 rfl D6 Tryz.type142 rfl rfl rfl rfl rfl rfl (A0 rfl) (A0 rfl) rfl (by simp only [B6, List.nil_append, H9, A8, List.length_drop, B2, A9, hrl]; omega)) (fun a _ => (by first | exact G1 rfl | exact G1 (List.append_assoc _ _ _) | exact J1)) ?_
      intro v94_8 _
      refine Z8 ?_
      refine V2 rfl rfl rfl (Q1 (by' := 40) 2 rfl D6 Tryz.type142 rfl rfl rfl rfl rfl rfl (A0 rfl) (A0 rfl) rfl (by simp only [B6, List.nil_append, H9, A8, List.length_drop, B2, A9, hrl]; omega)) (fun a _ => (by first | exact G1 rfl | exact G1 (List.append_assoc _ _ _) | exact J1)) ?_
      intro v96_9 _
      refine m0 ?_
      refine B5 rfl rfl rfl rfl rfl ?_
      refine A4 ?_
      refine J3 (by first | (simp only [List.singleton_append, pick, O2, N7, N8, N5, M9, List.nil_append, O3, O4, List.append_nil, N6, List.take_zero, N9, List.drop_zero]; exact rfl) | exact rfl) ?_
      refine AWP.le (J2 [0, 0, 0, 0] rfl) ?_
      refine AWP.le (j9 3 (t := nin TCell.ow (putC1 q x t) (fx v91)) ((hto v91).2.2)) ?_
      refine A2 ?_
      refine A1 rfl rfl rfl (H0 rfl (A0 rfl) C2 (by first | omega | (simp only [A6, A8, B2, B6, A9, szR] at *; omega))) ?_
      refine A5 rfl rfl rfl rfl rfl ?_
      refine A4 ?_
      refine V6 i v q xs (i + 1) (v96_9) (putC1 q x t) (fx v91) ?_ ?_ (Le.trans (J2 [0, 0, 0] rfl) (N4 2 (Eq.trans (by first | exact congrArg (fun z => Own.arr _ _ _ z :: _) (hto v91).2.1 | exact congrArg (fun z => Own.arr _ _ _ z :: _) (by first | (rw [List.nil_append, List.append_assoc]; exact (hto v91).2.1) | (rw [List.append_assoc]; exact (hto v91).2.1))) (List.append_nil _).symm) ⟨rfl, rfl, rfl, rfl, rfl, trivial⟩))
      ·exact ⟨by omega, (hto _).1, e9 hinvo.2.2.1 _ _, by have h8 := i6 q x t; have h9 := c9 (f := TWrite.size) hx; omega, t1 hinvo.2.2.2.2 hx hnt⟩
      ·omega
    ·refine V2 rfl rfl rfl (n1 2 (fun _ => rfl) (AB2 2 <| AA3 rfl I6 O6 Tryz.zeroValue197 rfl rfl rfl rfl (D7 (A0 rfl) (E9 _) H6) rfl rfl)) (fun a _ => (by first | exact G1 rfl | exact G1 (List.append_assoc _ _ _) | exact J1)) ?_
     intro v91 hone_v91
     have one_v91 := hone_v91.2
     refine K7 rfl rfl rfl (fun ext => M7 (places := #[(0, 1), (1, 1)]) rfl G9 Tryz.zeroValue142 (fun w => by kernel_rfl) rfl (D7 (A0 rfl) (O0 _) (D7 (A0 rfl) (R5 one_v91) H6)) rfl) ?_
     refine K7 rfl rfl rfl (fun ext => M8 rfl D6 F2 Tryz.zeroValue142 rfl rfl rfl rfl (D7 (A0 rfl) (E9 _) H6) rfl rfl) ?_
     refine Z8 ?_
     refine V2 rfl rfl rfl (AB2 3 <| g8 rfl D6 F2) (fun a _ => (by first | exact G1 rfl | exact G1 (List.append_assoc _ _ _) | exact J1)) ?_
     intro v83 _
     refine Z8 ?_
     refine V2 rfl rfl rfl (Q1 (by' := 40) 3 rfl D6 Tryz.type142 rfl rfl rfl rfl rfl rfl (A0 rfl) (A0 rfl) rfl (by simp only [B6, List.nil_append, H9, A8, List.length_drop, B2, A9, hrl]; omega)) (fun a _ => (by first | exact G1 rfl | exact G1 (List.append_assoc _ _ _) | exact J1)) ?_
     intro v87_10 _
     refine Z8 ?_
     refine V2 rfl rfl rfl (Q1 (by' := 40) 3 rfl D6 Tryz.type142 rfl rfl rfl rfl rfl rfl (A0 rfl) (A0 rfl) rfl (by simp only [B6, List.nil_append, H9, A8, List.length_drop, B2, A9, hrl]; omega)) (fun a _ => (by first | exact G1 rfl | exact G1 (List.append_assoc _ _ _) | exact J1)) ?_
     intro v94_11 _
     refine Z8 ?_
     refine V2 rfl rfl rfl (Q1 (by' := 40) 3 rfl D6 Tryz.type142 rfl rfl rfl rfl rfl rfl (A0 rfl) (A0 rfl) rfl (by simp only [B6, List.nil_append, H9, A8, List.length_drop, B2, A9, hrl]; omega)) (fun a _ => (by first | exact G1 rfl | exact G1 (List.append_assoc _ _ _) | exact J1)) ?_
     intro v96_12 _
     refine m0 ?_
     refine B5 rfl rfl rfl rfl rfl ?_
     refine A4 ?_
     refine J3 (by first | (simp only [List.singleton_append, pick, O2, N7, N8, N5, M9, List.nil_append, O3, O4, List.append_nil, N6, List.take_zero, N9, List.drop_zero]; exact rfl) | exact rfl) ?_
     refine AWP.le (J2 [0, 0, 1, 0] rfl) ?_
     refine AWP.le (j9 3 (t := nin TCell.ow (putC1 q x t) (fx v91)) ((hto v91).2.2)) ?_
     refine A2 ?_
     refine A1 rfl rfl rfl (H0 rfl (A0 rfl) C2 (by first | omega | (simp only [A6, A8, B2, B6, A9, szR] at *; omega))) ?_
     refine A5 rfl rfl rfl rfl rfl ?_
     refine A4 ?_
     refine V6 i v q xs (i + 1) (v96_12) (putC1 q x t) (fx v91) ?_ ?_ (Le.trans (J2 [0, 0, 0] rfl) (N4 2 (Eq.trans (by first | exact congrArg (fun z => Own.arr _ _ _ z :: _) (hto v91).2.1 | exact congrArg (fun z => Own.arr _ _ _ z :: _) (by first | (rw [List.nil_append, List.append_assoc]; exact (hto v91).2.1) | (rw [List.append_assoc]; exact (hto v91).2.1))) (List.append_nil _).symm) ⟨rfl, rfl, rfl, rfl, rfl, trivial⟩))
     ·exact ⟨by omega, (hto _).1, e9 hinvo.2.2.1 _ _, by have h8 := i6 q x t; have h9 := c9 (f := TWrite.size) hx; omega, t1 hinvo.2.2.2.2 hx hnt⟩
     ·omega
 ·intro h19
  have k19 := of_decide_eq_false h19; try simp only [A6] at k19
  have hge : w.length ≤ i := by omega
  have hpe := Aq8 hinv.2.2.2.2 hge
  have htk := r5 (f := TWrite.size) (l := w) i
  have hso : sizeL TCell.size q ≤ 4194304 := by omega
  have he : putP l w t = (q, l3Good q) := by unfold putP; rw [hpe]
  rw [he]
  refine I1 ?_
  refine A3 (A2 ?_)
  refine A5 rfl rfl rfl rfl rfl ?_
  refine A5 rfl rfl rfl rfl rfl ?_
  refine A1 rfl rfl rfl (V3 rfl Tryz.call201 rfl (AQ6 q hso) (F6 _) (M5 (f9 (A0 rfl) (i7 TCell.lcM (by first | exact hlen | exact hlen.trans (n2 _ _).symm) 0 rfl (fun o ho => List.mem_of_mem_drop (i := 1) (show o ∈ nin TCell.ow q xs from by first | exact ho | exact List.mem_append_left _ ho | exact List.mem_append_right _ ho | exact List.mem_append_right _ (List.mem_append_left _ ho) | exact List.mem_append_right _ (List.mem_append_right _ ho))))) T1)) ?_
  refine B5 rfl rfl rfl rfl rfl ?_
  refine B5 rfl rfl rfl rfl rfl ?_
  refine A4 ?_
  refine C7 ?_
  first | exact J6 [0] (v, []) (rfl) rfl (by rfl) (S8 rfl (by decide) (E4 (C3 rfl (by rfl)) (E4 (C3 rfl (by rfl)) J0))) | exact n9 [0] 0 (nin TCell.ow q xs) [] (v, []) (rfl) rfl (show List.Perm (nin TCell.ow q xs) ((nin TCell.ow q xs) ++ []) from c5) (by rfl) (S8 rfl (by decide) (E4 (C3 rfl (by rfl)) (E4 (C3 rfl (by rfl)) J0))) | exact n9 [0] 0 (nin TCell.ow q xs) [] (v, xs) (hinv.2.1) rfl (show List.Perm (nin TCell.ow q xs) ((nin TCell.ow q xs) ++ []) from c5) (by rfl) (S8 rfl (by decide) (E4 (C3 rfl (by rfl)) (E4 (C3 rfl (by rfl)) J0)))
end Go.Proofs.YtnlhbdkcgaeimaaGreat

set_option linter.unusedVariables false
namespace Go.AV
section
variable {P : Program} {G : Nat → Prop} {n : Nat} {own : List Own} {env : List (Nat × AV)} {fn : Func}
theorem AM9 {sel : List Own} {cs : List AV} {sz : Nat} (j : Nat) (h : cs[j]? = some AV.nils) : LendC sel cs (cs.set j (AV.list sz [])) := ⟨by rw [List.length_set], fun i x y hx hy => by
  by_cases e : j = i
  · subst e
    rw [List.getElem?_set_self (List.getElem?_eq_some_iff.1 h).1] at hy
    rw [h] at hx
    injection hx with hx; injection hy with hy; subst hx; subst hy
    exact AY1
  · rw [List.getElem?_set_ne e, hx] at hy
    injection hy with hy; subst hy; exact J5⟩
theorem AT2 {E : EnvF} {q : Operand} {v : Value} {e : TypeId} {sz : Nat} {es : List (List AV)} (i : Nat) (hi : own[i]? = some (.arr v e sz es)) (hq : Ev E q (AV.is v)) : SrcE own E q sz es := fun G w0 R0 R a w hc he => by
  have e1 : a.eval q = _ := hq R a he
  have hok := hc.owned _ (G2 hi)
  have hu := hok.2.1
  refine ⟨hu, ?_⟩
  obtain ⟨_, _, xs0, hown0, _⟩ := hok
  rcases hown0.2 with ⟨h1, h2⟩ | ⟨g, cap, cur0, h1, _⟩
  · subst h1
    have h3 : es = [] := List.eq_nil_of_length_eq_zero h2
    subst h3
    exact ⟨none, 0, [], e1, fun h => absurd rfl h⟩
  · subst h1
    by_cases hne : es = []
    · subst hne; exact ⟨_, cap, [], e1, fun h => absurd rfl h⟩
    · have hsrc := Y5 (own := own) (E := E) (q := q) i hi hq
      obtain ⟨_, h7⟩ := hsrc G w0 R0 R a w hc he
      obtain ⟨ad, c, vs, k1, k2, k3⟩ := h7 hne
      exact ⟨_, c, vs, k1, fun _ => ⟨ad, rfl, k2, k3⟩⟩
theorem Ax5 {o : Oper} {ops : Array Oper} {E : EnvF} {α : Type} {ok : α → Prop} {W' : α → List Own} {V : α → AV} {sel rest : α → List Own} {Y : α → AV} (is : List Nat) (hp : ∀ a, pick (W' a) is = (sel a, rest a)) (hl : ∀ a, LendTo (sel a) (V a) (Y a)) (hG : ∀ a b, G b → b ∈ (rest a).filterMap Own.blk)
    (h : OpE P G n own ops o E ok W' V) : OpE P G n own ops o E ok rest Y := fun w0 R0 R a w h1 h2 h3 =>
  Oper.wp_mono2 (fun a' w' ⟨x, v, R', e0, e1, e2, e3, e4⟩ =>
    have hk := g7 e2 (hp x)
    ⟨x, v, lend (sel x) w' R', e0, e1, AI5 hk (hG x), e3.trans (e7 (U0 hk)), hl x G w0 R0 R' w' v (U0 hk) e4⟩) (fun _ _ _ h => h) (h w0 R0 R a w h1 h2 h3)
theorem At4 (i j sz : Nat) {b : Nat} {t : TypeId} {cs : List AV} (hi : own[i]? = some (.box b t cs)) (hj : cs[j]? = some AV.nils) (hG : ∀ b, G b → b ∈ own.filterMap Own.blk) : Le G n ⟨own, env⟩ ⟨own.set i (.box b t (cs.set j (AV.list sz []))), env⟩ :=
  s8 [] i (.box b t (cs.set j (AV.list sz []))) rfl hi ⟨rfl, rfl, AM9 j hj⟩ hG
theorem d4 {α : Type} {ok : α → Prop} {O : α → List Own} {V : α → AV} (i j sz : Nat) {b : Nat} {t : TypeId} {cs : List AV} (hi : own[i]? = some (.box b t cs)) (hj : cs[j]? = some AV.nils) (hG : ∀ b, G b → b ∈ own.filterMap Own.blk)
    (k : RetOkG P G n fn ⟨own.set i (.box b t (cs.set j (AV.list sz []))), env⟩ ok O V) : RetOkG P G n fn ⟨own, env⟩ ok O V := fun w0 R0 R a w hs => by
  have hle : Le G n ⟨own, env⟩ ⟨own.set i (.box b t (cs.set j (AV.list sz []))), env⟩ := s8 [] i (.box b t (cs.set j (AV.list sz []))) rfl hi ⟨rfl, rfl, AM9 j hj⟩ hG
  obtain ⟨R1, h1, h2⟩ := hle w0 R0 R a w hs
  obtain ⟨x, v, R2, g0, g1, g2, g3, g4⟩ := k w0 R0 R1 a w h2
  exact ⟨x, v, R2, g0, g1, g2, h1.trans g3, g4⟩
theorem Z0 {y : AV} (i j sz : Nat) {b : Nat} {t : TypeId} {cs : List AV} (hi : own[i]? = some (.box b t cs)) (hj : cs[j]? = some AV.nils)
    (k : RetOk P (fun _ => False) n fn ⟨own.set i (.box b t (cs.set j (AV.list sz []))), env⟩ y) : RetOk P (fun _ => False) n fn ⟨own, env⟩ y := fun w0 R0 R a w hs => by
  have hle : Le (fun _ => False) n ⟨own, env⟩ ⟨own.set i (.box b t (cs.set j (AV.list sz []))), env⟩ := s8 [] i (.box b t (cs.set j (AV.list sz []))) rfl hi ⟨rfl, rfl, AM9 j hj⟩ Ad5
  obtain ⟨R1, h1, h2⟩ := hle w0 R0 R a w hs
  obtain ⟨v, R2, h3, h4, h5, h6⟩ := k w0 R0 R1 a w h2
  exact ⟨v, R2, h3, h4, h1.trans h5, h6⟩
end
end Go.AV

set_option linter.unusedVariables false
set_option linter.unusedSimpArgs false
set_option maxRecDepth 100000
set_option maxHeartbeats 1000000
namespace Go.M
open Go.AV
theorem AN0 {h : THeld} : ∀ {l : List THeld} {p : Nat}, p ≤ l.length → (∀ i x, i < p → l[i]? = some x → x.Txn ≤ h.Txn) → (∀ x, l[p]? = some x → h.Txn < x.Txn) → insH h l = l.take p ++ h :: l.drop p
  | [], p, hp, _, _ => by simp at hp; subst hp; rfl
  | g :: l, 0, _, _, h2 => by unfold insH; rw [if_pos (h2 g rfl)]; rfl
  | g :: l, p + 1, hp, h1, h2 => by
    unfold insH
    rw [if_neg (by have := h1 0 g (by omega) rfl; omega), AN0 (by simpa using hp) (fun i x hi hx => h1 (i + 1) x (by omega) (by simpa using hx)) (fun x hx => h2 x (by simpa using hx))]
    rfl
theorem AN1 {h : TTold} : ∀ {l : List TTold} {p : Nat}, p ≤ l.length → (∀ i x, i < p → l[i]? = some x → x.Txn ≤ h.Txn) → (∀ x, l[p]? = some x → h.Txn < x.Txn) → insT h l = l.take p ++ h :: l.drop p
  | [], p, hp, _, _ => by simp at hp; subst hp; rfl
  | g :: l, 0, _, _, h2 => by unfold insT; rw [if_pos (h2 g rfl)]; rfl
  | g :: l, p + 1, hp, h1, h2 => by
    unfold insT
    rw [if_neg (by have := h1 0 g (by omega) rfl; omega), AN1 (by simpa using hp) (fun i x hi hx => h1 (i + 1) x (by omega) (by simpa using hx)) (fun x hx => h2 x (by simpa using hx))]
    rfl
theorem AZ7 (l : List THeld) (n : Int) : hPos l n ≤ l.length := Ai0 _ _ _ _ _ rfl (Nat.zero_le _) (Nat.le_refl _)
theorem Aq9 (l : List TTold) (n : Int) : tPos l n ≤ l.length := Ai0 _ _ _ _ _ rfl (Nat.zero_le _) (Nat.le_refl _)
theorem insH_pos {l : List THeld} (hs : l.Pairwise fun a b => a.Txn < b.Txn) {h : THeld} (hn : hHas l h.Txn = false) : insH h l = l.take (hPos l h.Txn) ++ h :: l.drop (hPos l h.Txn) := by
  obtain ⟨h1, h2⟩ := AT1 (f := THeld.Txn) hs h.Txn
  rw [n5 hs] at hn
  refine AN0 (AZ7 _ _) (fun i x hi hx => by have := h1 i x hi hx; omega) fun x hx => ?_
  have h3 := h2 x hx
  have h4 := i9.1 hn x (G2 hx)
  omega
theorem insT_pos {l : List TTold} (hs : l.Pairwise fun a b => a.Txn < b.Txn) {h : TTold} (hn : tHas l h.Txn = false) : insT h l = l.take (tPos l h.Txn) ++ h :: l.drop (tPos l h.Txn) := by
  obtain ⟨h1, h2⟩ := AT1 (f := TTold.Txn) hs h.Txn
  rw [AG0 hs] at hn
  refine AN1 (Aq9 _ _) (fun i x hi hx => by have := h1 i x hi hx; omega) fun x hx => ?_
  have h3 := h2 x hx
  have h4 := AI2.1 hn x (G2 hx)
  omega
theorem Ad9 {l : List THeld} {n : Int} (h : hHas l n = true) : ∃ x, l[hPos l n]? = some x ∧ x.Txn = n := by
  unfold hHas bsAt at h
  cases e : l[hPos l n]? with
  | none => rw [e] at h; cases h
  | some x => rw [e] at h; exact ⟨x, rfl, (w3 _ _).1 (by simpa [hCmp] using h)⟩
theorem Ax6 {l : List TTold} {n : Int} (h : tHas l n = true) : ∃ x, l[tPos l n]? = some x ∧ x.Txn = n := by
  unfold tHas bsAt at h
  cases e : l[tPos l n]? with
  | none => rw [e] at h; cases h
  | some x => rw [e] at h; exact ⟨x, rfl, (w3 _ _).1 (by simpa [tCmp] using h)⟩
theorem Ak8 {l : List THeld} (hs : l.Pairwise fun a b => a.Txn < b.Txn) {i j : Nat} {x y : THeld} (hx : l[i]? = some x) (hy : l[j]? = some y) (e : x.Txn = y.Txn) : i = j := by
  rcases Nat.lt_trichotomy i j with h | h | h
  · have := AB3 (f := THeld.Txn) hs h hx hy; omega
  · exact h
  · have := AB3 (f := THeld.Txn) hs h hy hx; omega
theorem Ae0 {l : List THeld} (hs : l.Pairwise fun a b => a.Txn < b.Txn) {i : Nat} {x : THeld} (hx : l[i]? = some x) : findH l x.Txn = some x := by
  cases e : findH l x.Txn with
  | none =>
    rw [r3, i9] at e
    exact (e x (G2 hx) rfl).elim
  | some y =>
    obtain ⟨h1, h2⟩ := AI3 e
    obtain ⟨j, hj⟩ := List.getElem?_of_mem h1
    have := Ak8 hs hx hj h2.symm
    subst this
    rw [hx] at hj; exact hj.symm
theorem Ak9 {l : List THeld} (hs : l.Pairwise fun a b => a.Txn < b.Txn) {i : Nat} {x : THeld} (hx : l[i]? = some x) : lessH l x.Txn = l.eraseIdx i := by
  have h1 : ∀ (l : List THeld) (i : Nat) (x : THeld), l[i]? = some x → (∀ j y, l[j]? = some y → y.Txn = x.Txn → j = i) → lessH l x.Txn = l.eraseIdx i := by
    intro l
    induction l with
    | nil => intro i x h; simp at h
    | cons g l ih =>
      intro i x h hu
      cases i with
      | zero =>
        simp at h; subst h
        rw [O2]
        unfold lessH
        rw [List.filter_cons_of_neg (by simp), List.filter_eq_self]
        intro y hy
        obtain ⟨j, hj⟩ := List.getElem?_of_mem hy
        simp only [bne_iff_ne, ne_eq]
        intro e
        have := hu (j + 1) y (by simpa using hj) e
        omega
      | succ i =>
        rw [N7, ← ih i x (by simpa using h) fun j y hj e => by have := hu (j + 1) y (by simpa using hj) e; omega]
        unfold lessH
        rw [List.filter_cons_of_pos]
        simp only [bne_iff_ne, ne_eq]
        intro e
        have := hu 0 g rfl e
        omega
  exact h1 l i x hx fun j y hj e => Ak8 hs hj hx e
theorem Al0 {l : List THeld} {n : Int} (h : hasH l n = false) : lessH l n = l := by
  unfold lessH
  rw [List.filter_eq_self]
  intro y hy
  simpa using i9.1 h y hy
def THeld.ocs (h : THeld) (x : Value × Value) : List AV := [AV.int h.Txn, AV.int h.Time, AV.int h.Lead, AV.is x.1, AV.is x.2]
def TState.ocs (s : TState) (x : Value × Value) : List AV := [AV.int s.Floor, AV.list 2 (s.Cells.map TCell.cs), AV.is x.1, AV.is x.2]
def decR (s : TState) (r : TRec) : TState × Bool :=
  if r.Yes = true then (match findH s.Held r.Txn with
    | none => (zState, false)
    | some h => if r.Time < h.Time then (zState, false) else if (putP s.Cells h.Writes r.Time).2 = true then (doneS s r (if s.Floor < r.Time then r.Time else s.Floor) (putP s.Cells h.Writes r.Time).1, true) else (zState, false))
  else (doneS s r s.Floor s.Cells, true)
def appR (s : TState) (r : TRec) : TState × Bool := if (applyS s r).2 = true then ((applyS s r).1, true) else (zState, false)
theorem appR_dec {s : TState} {r : TRec} (h4 : r.Kind ≠ 4) (hT : hasT s.Told r.Txn = false) (h1 : r.Kind ≠ 1) : appR s r = decR s r := by
  unfold appR decR applyS
  rw [if_neg h4, if_neg (show ¬ hasT s.Told r.Txn = true by rw [hT]; decide), if_neg h1]
  by_cases hy : r.Yes = true
  · rw [if_pos hy, if_pos hy]
    cases findH s.Held r.Txn with
    | none => rfl
    | some h =>
      dsimp only
      split
      · rfl
      · split
        · rfl
        · rfl
  · rw [if_neg hy, if_neg hy]; rfl
end Go.M
namespace Go.Proofs.YtnlhbdkcgaeimaaGreat
open Go Go.AV Go.M
def THeld.ow (h : THeld) (x : Value × Value) : List Own := [.arr x.1 9 1 (h.Reads.map fun k => [AV.str k]), .arr x.2 77 3 (h.Writes.map TWrite.cs)]
def TState.ow (s : TState) (x : Value × Value) : List Own := [.arr x.1 45 5 (s.Held.map THeld.cs), .arr x.2 39 3 (s.Told.map TTold.cs)]
theorem THeld.lc (h : THeld) (x : Value × Value) : LendC (THeld.ow h x) (THeld.ocs h x) h.cs :=
  G3 J5 (G3 J5 (G3 J5 (G3 (M2 (G2 (i := 0) rfl) I7) (G3 (M2 (G2 (i := 1) rfl) I7) S1))))
theorem TState.lc (s : TState) (x : Value × Value) : LendC (TState.ow s x) (TState.ocs s x) s.cs :=
  G3 J5 (G3 J5 (G3 (M2 (G2 (i := 0) rfl) I7) (G3 (M2 (G2 (i := 1) rfl) I7) S1)))
attribute [local irreducible] OpW OpA OpS AWP FSpec ESpec GSpec OpE RetOk RetOkG RvDen Le Ev GuardIs SrcIs Int.tmod Int.tdiv IntKind.wrap
theorem At5 (h k : THeld) (h1 : h.Writes.length ≤ 4611686018427387903) (ha : adj wLess h.Writes = true) (hk : adj wLess k.Writes = true ∧ k.Writes.length ≤ 4611686018427387903) : FSpec Tryz.prog 220 [AV.agg k.cs, AV.eptr h.cs] (AV.bool (clash h k)) := by
 obtain ⟨ka, k1⟩ := hk
 refine E7 Tryz.func220 rfl Tryz.ntmps220 rfl ?_
 refine A3 (A2 ?_)
 refine L9 rfl rfl rfl rfl (A0 rfl) ?_
 intro b2
 refine A1 rfl rfl rfl (C0 rfl F3) ?_
 refine A4 (A3 (A2 ?_))
 refine A1 rfl rfl rfl (L8 rfl (A0 rfl) H8 D3) ?_
 refine A1 rfl rfl rfl (F8 0 rfl (A0 rfl) rfl H8 D3 rfl) ?_
 refine A1 rfl rfl rfl (E5 rfl Tryz.call185 rfl (AW3 _ _ (by first | assumption | omega) (by first | assumption | omega) (by assumption) (by assumption)) (A7 (A0 rfl) (A7 (A0 rfl) C9))) ?_
 refine B5 rfl rfl rfl rfl rfl ?_
 refine A4 ?_
 refine C7 ?_
 exact I2 rfl (C3 rfl (by first | rfl | (refine congrArg AV.bool ?_; simp_all; done)))
theorem AW7 (l : List TCell) (hs : sizeL TCell.size l ≤ 4194304) : FSpec Tryz.prog 253 [AV.list 2 (l.map TCell.cs)] (AV.list 2 (l.map TCell.cs)) :=
  V0 (AJ9 l hs) fun x h => i7 TCell.lcM h 0 rfl fun o ho => List.mem_cons_of_mem _ ho
theorem AZ8 (l : List TCell) (w : List TWrite) (t : Int) (ho : CellsOk l) (hs : sizeL TCell.size l ≤ 1048576) (hw : sizeL TWrite.size w ≤ 1048576) : FSpec Tryz.prog 255 [AV.list 2 (l.map TCell.cs), AV.list 3 (w.map TWrite.cs), AV.int t] (AV.tup [AV.list 2 ((putCells l w t).1.map TCell.cs), AV.bool (putCells l w t).2]) :=
  V0 (Ak7 l w t ho hs hw) fun x h => AU9 (G3 (i7 TCell.lcM h 0 rfl fun o ho => List.mem_cons_of_mem _ ho) (G3 J5 S1))
theorem At6 (r : TRec) (hs : r.size ≤ 1048576) : GSpec Tryz.prog 195 [AV.agg r.cs] [] (fun _ : Value × Value => True) (fun x => THeld.ow (hOf r) x) (fun x => AV.agg (THeld.ocs (hOf r) x)) := by
 obtain ⟨hr1, hr2, hr3, hr4⟩ := AM7 hs
 refine H7 Tryz.func195 rfl Tryz.ntmps195 rfl ?_
 refine A3 (A2 ?_)
 refine L9 rfl rfl rfl rfl (A0 rfl) ?_
 intro b1
 refine G5 rfl rfl rfl rfl Tryz.zeroValue45 rfl ?_
 intro b2
 refine A4 (A3 ?_)
 refine S0 _ [(0, false), (1, false), (2, false), (3, false), (4, false), (5, false), (6, false), (7, false), (9, false), (10, false), (8, true), (11, true)] (by kernel_rfl) (by kernel_rfl) rfl p6 ?_
 refine F9 rfl rfl rfl (fun ext => B4 1 rfl B8 rfl C1 (A0 rfl) rfl) ?_
 refine F9 rfl rfl rfl (fun ext => B3 1 rfl (A0 rfl) rfl D1 rfl) ?_
 refine F9 rfl rfl rfl (fun ext => B4 2 rfl B8 rfl C1 (A0 rfl) rfl) ?_
 refine F9 rfl rfl rfl (fun ext => B3 1 rfl (A0 rfl) rfl D1 rfl) ?_
 refine F9 rfl rfl rfl (fun ext => B4 3 rfl B8 rfl C1 (A0 rfl) rfl) ?_
 refine F9 rfl rfl rfl (fun ext => B3 1 rfl (A0 rfl) rfl D1 rfl) ?_
 refine F9 rfl rfl rfl (fun ext => B4 4 rfl B8 rfl M3 (A0 rfl) rfl) ?_
 refine F9 rfl rfl rfl (fun ext => B3 1 rfl (A0 rfl) rfl P3 rfl) ?_
 refine F9 rfl rfl rfl (fun ext => B4 5 rfl B8 rfl K4 (A0 rfl) rfl) ?_
 refine F9 rfl rfl rfl (fun ext => B3 1 rfl (A0 rfl) rfl L7 rfl) ?_
 refine T5 rfl rfl rfl (d3 [] rfl Tryz.call236 rfl (AS7 _ (by first | assumption | omega)) (A7 (A0 rfl) C9) rfl) (fun a _ => (by first | exact G1 rfl | exact G1 (List.append_assoc _ _ _) | exact J1)) ?_
 intro x11 ok11
 refine T5 rfl rfl rfl (d3 [] rfl Tryz.call252 rfl (AV8 _ (by first | assumption | omega)) (A7 (A0 rfl) C9) rfl) (fun a _ => (by first | exact G1 rfl | exact G1 (List.append_assoc _ _ _) | exact J1)) ?_
 intro x14 ok14
 refine j4 ?_
 refine Q8 2 rfl fun one_x11 => ?_
 refine Q8 3 rfl fun one_x14 => ?_
 refine A1 rfl rfl rfl (M7 (places := #[(0, 1), (1, 1), (2, 1), (3, 1), (4, 1)]) rfl F1 Tryz.zeroValue45 (fun w => by kernel_rfl) rfl (D7 (A0 rfl) (K6 _ _) (D7 (A0 rfl) (K6 _ _) (D7 (A0 rfl) (K6 _ _) (D7 (A0 rfl) (R5 one_x11) (D7 (A0 rfl) (R5 one_x14) H6))))) rfl) ?_
 refine D9 0 rfl rfl rfl (A0 rfl) (A0 rfl) (E9 _) rfl D3 rfl ?_
 refine A4 ?_
 refine C7 ?_
 exact J6 [2, 2] (x11, x14) (trivial) rfl (by rfl) (N2 rfl (J9 (ys := _) 0 rfl rfl H8 D3 rfl))
theorem AR2 (r : TRec) (hs : r.size ≤ 1048576) : FSpec Tryz.prog 195 [AV.agg r.cs] (AV.agg (hOf r).cs) :=
  V0 (At6 r hs) fun x _ => Y0 (THeld.lc _ x)
theorem y9 (h : THeld) (hs : h.size ≤ 1048576) : FSpec Tryz.prog 98 [AV.agg h.cs] (AV.agg h.cs) := by
 refine E7 Tryz.func98 rfl Tryz.ntmps98 rfl ?_
 refine A3 (A2 ?_)
 refine L9 rfl rfl rfl rfl (A0 rfl) ?_
 intro b1
 refine G5 rfl rfl rfl rfl Tryz.zeroValue45 rfl ?_
 intro b2
 refine A4 (A3 (A2 ?_))
 refine A1 rfl rfl rfl (F8 1 rfl (A0 rfl) rfl H8 D3 rfl) ?_
 refine A1 rfl rfl rfl (E5 rfl Tryz.call182 rfl (Ak1 _) (A7 (A0 rfl) C9)) ?_
 refine A1 rfl rfl rfl (E5 rfl Tryz.call195 rfl (AR2 (hRec h) hs) (A7 (A0 rfl) C9)) ?_
 refine D9 0 rfl rfl rfl (A0 rfl) (A0 rfl) (E9 _) rfl D3 rfl ?_
 refine A4 ?_
 refine C7 ?_
 exact I2 rfl (J9 (ys := _) 0 rfl rfl H8 D3 rfl)
theorem z6 (s : TState) (hs : s.size ≤ 1048576) : GSpec Tryz.prog 198 [AV.agg s.cs] [] (fun _ : Value × Value => True) (fun x => TState.ow s x) (fun x => AV.agg (TState.ocs s x)) := by
 obtain ⟨hs1, hs2, hs3, hs4, hs5⟩ := R4 hs
 refine H7 Tryz.func198 rfl Tryz.ntmps198 rfl ?_
 refine A3 (A2 ?_)
 refine L9 rfl rfl rfl rfl (A0 rfl) ?_
 intro b1
 refine G5 rfl rfl rfl rfl Tryz.zeroValue30 rfl ?_
 intro b2
 refine A4 (A3 ?_)
 refine e6 _ 10 (.pure 0 (.pure 1 (.pure 2 (.pure 3 (.pure 4 (.pure 5 (.pure 6 (.e2 7 (.pure 8 (.e1 9 .nil)) 9 (.e1 7 (.pure 8 .nil)))))))))) (by kernel_rfl) (by kernel_rfl) rfl p6 ?_
 refine K7 rfl rfl rfl (fun ext => B4 0 rfl C4 rfl C1 (A0 rfl) rfl) ?_
 refine K7 rfl rfl rfl (fun ext => B3 1 rfl (A0 rfl) rfl D1 rfl) ?_
 refine K7 rfl rfl rfl (fun ext => B4 1 rfl C4 rfl O5 (A0 rfl) rfl) ?_
 refine K7 rfl rfl rfl (fun ext => B3 1 rfl (A0 rfl) rfl Q5 rfl) ?_
 refine K7 rfl rfl rfl (fun ext => E5 rfl Tryz.call253 rfl (AW7 s.Cells (by omega)) (A7 (A0 rfl) C9)) ?_
 refine K7 rfl rfl rfl (fun ext => B4 3 rfl C4 rfl K5 (A0 rfl) rfl) ?_
 refine K7 rfl rfl rfl (fun ext => B3 1 rfl (A0 rfl) rfl Q0 rfl) ?_
 refine AV3 ?_ ?_
 ·refine V2 rfl rfl rfl (n1 2 (fun _ => rfl) (d3 [] rfl Tryz.call254 rfl (AF7 _ (by first | assumption | omega)) (A7 (A0 rfl) C9) rfl)) (fun a _ => (by first | exact G1 rfl | exact G1 (List.append_assoc _ _ _) | exact J1)) ?_
  intro x13 ok13
  have one_x13 := ok13.2
  replace ok13 := ok13.1
  refine K7 rfl rfl rfl (fun ext => M7 (places := #[(0, 1), (1, 1), (2, 1), (3, 1)]) rfl C4 Tryz.zeroValue30 (fun w => by kernel_rfl) rfl (D7 (A0 rfl) (K6 _ _) (D7 (A0 rfl) (T0 _ _) (D7 (A0 rfl) (R5 one_x13) H6))) rfl) ?_
  refine Z8 ?_
  refine V2 rfl rfl rfl (w8 rfl Tryz.zeroValue30 rfl) (fun a _ => (by first | exact G1 rfl | exact G1 (List.append_assoc _ _ _) | exact J1)) ?_
  intro b3 _
  refine m0 ?_
  refine D9 3 rfl rfl rfl (A0 rfl) (A0 rfl) (E9 _) rfl C5 rfl ?_
  refine A4 (A3 (A3 (A2 ?_)))
  refine A1 rfl rfl rfl (B4 2 rfl C4 rfl G4 (A0 rfl) rfl) ?_
  refine A1 rfl rfl rfl (B3 1 rfl (A0 rfl) rfl J8 rfl) ?_
  refine A1 rfl rfl rfl (I5 rfl D0 (A0 rfl)) ?_
  refine A1 rfl rfl rfl (C6 rfl C2) ?_
  refine A4 (E1 ?_)
  refine d8 45 5 ?_
  refine AWP.le (J2 [4, 0] rfl) ?_
  refine T3 [(2, _), (3, _), (16, _), (17, _)] _ (fun (i : Nat) (v : Value) => i ≤ s.Held.length) (fun (i : Nat) (v : Value) => [.box b3 30 [AV.int s.Floor, AV.list 2 (s.Cells.map TCell.cs), AV.is v, AV.is x13], .arr v 45 5 ((s.Held.take i).map THeld.cs)]) (fun (i : Nat) (v : Value) => [(18, AV.int i)]) (fun (i : Nat) (v : Value) => s.Held.length - i) (0) ((Value.slice none 0 0)) ?_ (S9 (by rfl) ⟨rfl, rfl, rfl, rfl, rfl, trivial⟩) ?_
  ·exact Nat.zero_le _
  intro i v hinv
  refine A3 (A2 ?_)
  refine A1 rfl rfl rfl (L4 rfl (A0 rfl) (A0 rfl)) ?_
  refine A4 (A3 ?_)
  refine C8 (A0 rfl) ?_ ?_
  ·intro h19
   have k19 := of_decide_eq_true h19; try simp only [A6] at k19
   have hlt : i < s.Held.length := by omega
   obtain ⟨h, hx⟩ := get_some hlt
   obtain ⟨g1, g2, g3, g4, g5⟩ := U7 hs2 hx
   refine D2 (A3 (E1 (A3 (A2 ?_))))
   refine A1 rfl rfl rfl (K0 rfl D0 D3 (A0 rfl) (A0 rfl) hx (by first | omega | (simp only [A6, A8, B2, B6, A9, szR] at *; omega))) ?_
   refine A1 rfl rfl rfl (L8 rfl (A0 rfl) H8 D3) ?_
   refine G5 rfl rfl rfl rfl Tryz.zeroValue45 rfl ?_
   intro b5
   refine D9 0 rfl rfl rfl (A0 rfl) (A0 rfl) (E9 _) rfl D3 rfl ?_
   refine A4 ?_
   refine Q7 5 (by kernel_rfl) (by kernel_rfl) rfl ?_
   refine B7 rfl rfl (B4 2 rfl C4 rfl G4 (A0 rfl) rfl) ?_
   refine B7 rfl rfl (B3 1 rfl (A0 rfl) rfl J8 rfl) ?_
   refine B7 rfl rfl (F8 0 rfl (A0 rfl) rfl H8 D3 rfl) ?_
   refine B7 rfl rfl (E5 rfl Tryz.call98 rfl (y9 _ (by first | assumption | omega)) (A7 (A0 rfl) C9)) ?_
   refine B7 rfl rfl (M8 rfl D0 D3 Tryz.zeroValue45 rfl rfl rfl rfl (D7 (A0 rfl) (E9 _) H6) rfl rfl) ?_
   refine P7 ?_
   refine M6 (by' := 72) 2 rfl rfl rfl rfl D0 Tryz.type45 rfl rfl rfl rfl rfl rfl (A0 rfl) (A0 rfl) rfl (by simp only [A6, A8, A9]; omega) ?_
   intro v27_1
   refine A1 rfl rfl rfl (B4 2 rfl C4 rfl G4 (A0 rfl) rfl) ?_
   refine Q8 2 rfl fun one_v27_1 => ?_
   refine J4 1 rfl rfl rfl (A0 rfl) (A0 rfl) (R5 one_v27_1) rfl G4 rfl ?_
   refine A4 (A2 ?_)
   refine A1 rfl rfl rfl (H0 rfl (A0 rfl) C2 (by first | omega | (simp only [A6, A8, B2, B6, A9, szR] at *; omega))) ?_
   refine A5 rfl rfl rfl rfl rfl ?_
   refine A4 ?_
   refine R6 i v (i + 1) (v27_1) ?_ ?_ (Le.trans (J2 [0, 0, 0] rfl) (N4 1 (by exact congrArg (fun z => Own.box b3 30 [AV.int s.Floor, AV.list 2 (s.Cells.map TCell.cs), AV.is v27_1, AV.is x13] :: Own.arr v27_1 45 5 z :: _) (c4 (f := THeld.cs) hx)) ⟨rfl, rfl, rfl, rfl, rfl, trivial⟩))
   ·omega
   ·omega
  ·intro h19
   have k19 := of_decide_eq_false h19; try simp only [A6] at k19
   have hge : i = s.Held.length := by omega
   rw [hge, List.take_length]
   refine I1 ?_
   refine A3 (A2 ?_)
   refine A1 rfl rfl rfl (F8 0 rfl (A0 rfl) rfl D8 C5 rfl) ?_
   refine D9 2 rfl rfl rfl (A0 rfl) (A0 rfl) (E9 _) rfl C5 rfl ?_
   refine A4 ?_
   refine C7 ?_
   exact J6 [1, 3] (v, x13) (trivial) rfl (by rfl) (N2 rfl (J9 (ys := _) 2 rfl rfl D8 C5 rfl))
 ·refine V2 rfl rfl rfl (w8 rfl Tryz.zeroValue30 rfl) (fun a _ => (by first | exact G1 rfl | exact G1 (List.append_assoc _ _ _) | exact J1)) ?_
  intro b3 _
  refine Z8 ?_
  refine V2 rfl rfl rfl (n1 3 (fun _ => rfl) (d3 [] rfl Tryz.call254 rfl (AF7 _ (by first | assumption | omega)) (A7 (A0 rfl) C9) rfl)) (fun a _ => (by first | exact G1 rfl | exact G1 (List.append_assoc _ _ _) | exact J1)) ?_
  intro x13 ok13
  have one_x13 := ok13.2
  replace ok13 := ok13.1
  refine K7 rfl rfl rfl (fun ext => M7 (places := #[(0, 1), (1, 1), (2, 1), (3, 1)]) rfl C4 Tryz.zeroValue30 (fun w => by kernel_rfl) rfl (D7 (A0 rfl) (K6 _ _) (D7 (A0 rfl) (T0 _ _) (D7 (A0 rfl) (R5 one_x13) H6))) rfl) ?_
  refine m0 ?_
  refine D9 2 rfl rfl rfl (A0 rfl) (A0 rfl) (E9 _) rfl C5 rfl ?_
  refine A4 (A3 (A3 (A2 ?_)))
  refine A1 rfl rfl rfl (B4 2 rfl C4 rfl G4 (A0 rfl) rfl) ?_
  refine A1 rfl rfl rfl (B3 1 rfl (A0 rfl) rfl J8 rfl) ?_
  refine A1 rfl rfl rfl (I5 rfl D0 (A0 rfl)) ?_
  refine A1 rfl rfl rfl (C6 rfl C2) ?_
  refine A4 (E1 ?_)
  refine d8 45 5 ?_
  refine AWP.le (J2 [3, 0] rfl) ?_
  refine T3 [(2, _), (3, _), (16, _), (17, _)] _ (fun (i : Nat) (v : Value) => i ≤ s.Held.length) (fun (i : Nat) (v : Value) => [.box b3 30 [AV.int s.Floor, AV.list 2 (s.Cells.map TCell.cs), AV.is v, AV.is x13], .arr v 45 5 ((s.Held.take i).map THeld.cs)]) (fun (i : Nat) (v : Value) => [(18, AV.int i)]) (fun (i : Nat) (v : Value) => s.Held.length - i) (0) ((Value.slice none 0 0)) ?_ (S9 (by rfl) ⟨rfl, rfl, rfl, rfl, rfl, trivial⟩) ?_
  ·exact Nat.zero_le _
  intro i v hinv
  refine A3 (A2 ?_)
  refine A1 rfl rfl rfl (L4 rfl (A0 rfl) (A0 rfl)) ?_
  refine A4 (A3 ?_)
  refine C8 (A0 rfl) ?_ ?_
  ·intro h19
   have k19 := of_decide_eq_true h19; try simp only [A6] at k19
   have hlt : i < s.Held.length := by omega
   obtain ⟨h, hx⟩ := get_some hlt
   obtain ⟨g1, g2, g3, g4, g5⟩ := U7 hs2 hx
   refine D2 (A3 (E1 (A3 (A2 ?_))))
   refine A1 rfl rfl rfl (K0 rfl D0 D3 (A0 rfl) (A0 rfl) hx (by first | omega | (simp only [A6, A8, B2, B6, A9, szR] at *; omega))) ?_
   refine A1 rfl rfl rfl (L8 rfl (A0 rfl) H8 D3) ?_
   refine G5 rfl rfl rfl rfl Tryz.zeroValue45 rfl ?_
   intro b5
   refine D9 0 rfl rfl rfl (A0 rfl) (A0 rfl) (E9 _) rfl D3 rfl ?_
   refine A4 ?_
   refine Q7 5 (by kernel_rfl) (by kernel_rfl) rfl ?_
   refine B7 rfl rfl (B4 2 rfl C4 rfl G4 (A0 rfl) rfl) ?_
   refine B7 rfl rfl (B3 1 rfl (A0 rfl) rfl J8 rfl) ?_
   refine B7 rfl rfl (F8 0 rfl (A0 rfl) rfl H8 D3 rfl) ?_
   refine B7 rfl rfl (E5 rfl Tryz.call98 rfl (y9 _ (by first | assumption | omega)) (A7 (A0 rfl) C9)) ?_
   refine B7 rfl rfl (M8 rfl D0 D3 Tryz.zeroValue45 rfl rfl rfl rfl (D7 (A0 rfl) (E9 _) H6) rfl rfl) ?_
   refine P7 ?_
   refine M6 (by' := 72) 2 rfl rfl rfl rfl D0 Tryz.type45 rfl rfl rfl rfl rfl rfl (A0 rfl) (A0 rfl) rfl (by simp only [A6, A8, A9]; omega) ?_
   intro v27_2
   refine A1 rfl rfl rfl (B4 2 rfl C4 rfl G4 (A0 rfl) rfl) ?_
   refine Q8 2 rfl fun one_v27_2 => ?_
   refine J4 1 rfl rfl rfl (A0 rfl) (A0 rfl) (R5 one_v27_2) rfl G4 rfl ?_
   refine A4 (A2 ?_)
   refine A1 rfl rfl rfl (H0 rfl (A0 rfl) C2 (by first | omega | (simp only [A6, A8, B2, B6, A9, szR] at *; omega))) ?_
   refine A5 rfl rfl rfl rfl rfl ?_
   refine A4 ?_
   refine R6 i v (i + 1) (v27_2) ?_ ?_ (Le.trans (J2 [0, 0, 0] rfl) (N4 1 (by exact congrArg (fun z => Own.box b3 30 [AV.int s.Floor, AV.list 2 (s.Cells.map TCell.cs), AV.is v27_2, AV.is x13] :: Own.arr v27_2 45 5 z :: _) (c4 (f := THeld.cs) hx)) ⟨rfl, rfl, rfl, rfl, rfl, trivial⟩))
   ·omega
   ·omega
  ·intro h19
   have k19 := of_decide_eq_false h19; try simp only [A6] at k19
   have hge : i = s.Held.length := by omega
   rw [hge, List.take_length]
   refine I1 ?_
   refine A3 (A2 ?_)
   refine A1 rfl rfl rfl (F8 0 rfl (A0 rfl) rfl D8 C5 rfl) ?_
   refine D9 2 rfl rfl rfl (A0 rfl) (A0 rfl) (E9 _) rfl C5 rfl ?_
   refine A4 ?_
   refine C7 ?_
   exact J6 [1, 3] (v, x13) (trivial) rfl (by rfl) (N2 rfl (J9 (ys := _) 2 rfl rfl D8 C5 rfl))
theorem At7 (l : List TCell) (w : List TWrite) (t : Int) : (putCells l w t).2 = (putP l w t).2 ∧ ((putP l w t).2 = true → (putCells l w t).1 = (putP l w t).1) := by
  rw [An2]
  cases h : (putP l w t).2 <;> simp
theorem An7 (s : TState) (r : TRec) (hg : goodCells s.Cells = true) (hsr : s.Held.Pairwise fun a b => a.Txn < b.Txn) (htr : s.Told.Pairwise fun a b => a.Txn < b.Txn) (hT : hasT s.Told r.Txn = false) (hs : s.size ≤ 1048576) : GSpec Tryz.prog 199 [AV.agg s.cs, AV.agg r.cs] [] (fun _ : Value × Value => True) (fun x => TState.ow (decR s r).1 x) (fun x => AV.tup [AV.agg (TState.ocs (decR s r).1 x), AV.bool (decR s r).2]) := by
 obtain ⟨hs1, hs2, hs3, hs4, hs5⟩ := R4 hs
 have hco := V4 hg
 have hins : insT ⟨r.Txn, r.Yes, r.Time⟩ s.Told = s.Told.take (tPos s.Told r.Txn) ++ ⟨r.Txn, r.Yes, r.Time⟩ :: s.Told.drop (tPos s.Told r.Txn) := insT_pos htr (by rw [AG0 htr]; exact hT)
 obtain ⟨h, hh0⟩ : ∃ h, hHas s.Held r.Txn = true → s.Held[hPos s.Held r.Txn]? = some h ∧ h.Txn = r.Txn := by
  cases e : hHas s.Held r.Txn with
  | true => obtain ⟨x, h1, h2⟩ := Ad9 e; exact ⟨x, fun _ => ⟨h1, h2⟩⟩
  | false => exact ⟨⟨0, 0, 0, [], []⟩, fun h => by cases h⟩
 have hfd : hHas s.Held r.Txn = true → findH s.Held r.Txn = some h := fun e => by obtain ⟨h1, h2⟩ := hh0 e; have := Ae0 hsr h1; rw [h2] at this; exact this
 have hfn : hHas s.Held r.Txn = false → findH s.Held r.Txn = none := fun e => by rw [n5 hsr] at e; exact r3.2 e
 have hrow : hHas s.Held r.Txn = true → (s.Held.map THeld.cs)[((hPos s.Held r.Txn : Nat) : Int).toNat]? = some h.cs := fun e => by rw [Int.toNat_natCast, List.getElem?_map, (hh0 e).1]; rfl
 have hplt : hHas s.Held r.Txn = true → hPos s.Held r.Txn < s.Held.length := fun e => (List.getElem?_eq_some_iff.1 (hh0 e).1).1
 have hple := AZ7 s.Held r.Txn
 have htle := Aq9 s.Told r.Txn
 refine H7 Tryz.func199 rfl Tryz.ntmps199 rfl ?_
 refine A3 (A2 ?_)
 refine L9 rfl rfl rfl rfl (A0 rfl) ?_
 intro b2
 refine L9 rfl rfl rfl rfl (A0 rfl) ?_
 intro b3
 refine G5 rfl rfl rfl rfl Tryz.zeroValue30 rfl ?_
 intro b4
 refine A1 rfl rfl rfl (C0 rfl F3) ?_
 refine A4 (A3 (A2 ?_))
 refine A1 rfl rfl rfl (F8 2 rfl (A0 rfl) rfl D8 C5 rfl) ?_
 refine I0 [] rfl rfl rfl rfl Tryz.call198 rfl (z6 s hs) (A7 (A0 rfl) C9) rfl ?_
 intro x14 ok14
 refine G5 rfl rfl rfl rfl Tryz.zeroValue30 rfl ?_
 intro b6
 refine D9 0 rfl rfl rfl (A0 rfl) (A0 rfl) (E9 _) rfl C5 rfl ?_
 refine A4 (A3 ?_)
 refine J3 (by first | (simp only [TState.ow, TState.ocs, pick, O2, N7, N8, N5, M9, List.nil_append, O3, O4, List.append_nil, N6, List.take_zero, N9, List.drop_zero]; exact rfl) | exact rfl) ?_
 refine A2 ?_
 refine A1 rfl rfl rfl (F8 0 rfl (A0 rfl) rfl D8 C5 rfl) ?_
 refine A1 rfl rfl rfl (B4 1 rfl B8 rfl C1 (A0 rfl) rfl) ?_
 refine A1 rfl rfl rfl (B3 4 rfl (A0 rfl) rfl D1 rfl) ?_
 refine A1 rfl rfl rfl (V3 rfl Tryz.call96 rfl (o1 s r.Txn hs5) (Y3 (D5 (F4 _ _) (D5 (F6 _) F5))) (M5 (f9 (A0 rfl) (Y0 (G3 J5 (G3 J5 (G3 (M2 (G2 (i := 1) rfl) I7) (G3 (M2 (G2 (i := 2) rfl) I7) S1)))))) (M5 (evb (A0 rfl)) T1))) ?_
 refine A5 rfl rfl rfl rfl rfl ?_
 refine A1 rfl rfl rfl (F0 rfl (A0 rfl) rfl) ?_
 refine A1 rfl rfl rfl (F0 rfl (A0 rfl) rfl) ?_
 refine B5 rfl rfl rfl rfl rfl ?_
 refine B5 rfl rfl rfl rfl rfl ?_
 refine A4 (A3 (A3 (A2 ?_)))
 refine A1 rfl rfl rfl (B4 6 rfl B8 rfl I8 (A0 rfl) rfl) ?_
 refine A1 rfl rfl rfl (B3 4 rfl (A0 rfl) rfl L2 rfl) ?_
 refine A4 ?_
 refine C8 (A0 rfl) ?_ ?_
 ·intro h23
  refine A3 (A3 ?_)
  refine K9 (by kernel_rfl) (by kernel_rfl) rfl ?_
  refine B7 rfl rfl (C6 rfl (A0 rfl)) ?_
  refine B7 rfl rfl (J7 rfl (A0 rfl)) ?_
  refine B7 rfl rfl (C6 rfl (A0 rfl)) ?_
  refine E0 rfl (D4 rfl rfl rfl) (fun hc => B4 2 rfl C4 rfl G4 (A0 rfl) rfl) ?_
  refine E0 rfl (D4 rfl rfl rfl) (fun hc => B3 0 rfl (B0 rfl hc) rfl J8 rfl) ?_
  refine E0 rfl (D4 rfl rfl rfl) (fun hc => C6 rfl (A0 rfl)) ?_
  refine E0 rfl (D4 rfl rfl rfl) (fun hc => R9 1 rfl D0 D3 (B0 rfl hc) rfl (B0 rfl hc) (by omega) (by have := hplt (by simpa using hc); simp only [A6]; omega)) ?_
  refine E0 rfl (D4 rfl rfl rfl) (fun hc => Z4 1 rfl F1 rfl C1 (B0 rfl hc) rfl rfl (hrow (by simpa using hc))) ?_
  refine E0 rfl (D4 rfl rfl rfl) (fun hc => i4 1 rfl (B0 rfl hc) rfl D1 (hrow (by simpa using hc)) rfl) ?_
  refine E0 rfl (D4 rfl rfl rfl) (fun hc => B4 2 rfl B8 rfl C1 (A0 rfl) rfl) ?_
  refine E0 rfl (D4 rfl rfl rfl) (fun hc => B3 4 rfl (B0 rfl hc) rfl D1 rfl) ?_
  refine E0 rfl (D4 rfl rfl rfl) (fun hc => P1 rfl (B0 rfl hc) (B0 rfl hc)) ?_
  refine B7 rfl rfl (P5 rfl (A0 rfl) (G0 rfl)) ?_
  refine P7 ?_
  refine C8 (A0 rfl) ?_ ?_
  ·intro h36
   have hdec : decR s r = (zState, false) := by (unfold decR; rw [if_pos h23]; cases e : hHas s.Held r.Txn with | false => (rw [hfn e]) | true => (rw [hfd e]; dsimp only; rw [if_pos (by rw [e] at h36; simpa using h36)]))
   rw [hdec]
   refine A3 (A2 ?_)
   refine A1 rfl rfl rfl (M7 (places := #[(0, 1), (1, 1), (2, 1), (3, 1)]) rfl C4 Tryz.zeroValue30 (fun w => by kernel_rfl) rfl H6 rfl) ?_
   refine D9 3 rfl rfl rfl (A0 rfl) (A0 rfl) (E9 _) rfl C5 rfl ?_
   refine A1 rfl rfl rfl (C0 rfl F3) ?_
   refine A4 ?_
   refine C7 ?_
   refine d4 3 1 2 rfl rfl R7 ?_
   refine T7 45 5 ?_
   refine T7 39 3 ?_
   exact J6 [1, 0] ((Value.slice none 0 0), (Value.slice none 0 0)) (trivial) rfl (by rfl) (S8 rfl (by decide) (E4 (J9 (ys := _) 5 rfl rfl D8 C5 rfl) (E4 (C3 rfl (by rfl)) J0)))
  ·intro h36
   simp only [Bool.or_eq_false_iff, Bool.not_eq_false', decide_eq_false_iff_not] at h36
   obtain ⟨hhas, hnlt⟩ := h36
   have hlt := hplt hhas
   obtain ⟨g1, g2, g3, g4, g5⟩ := U7 hs2 (hh0 hhas).1
   have hpc := At7 s.Cells h.Writes r.Time
   refine D2 (A3 ?_)
   refine K9 (by kernel_rfl) (by kernel_rfl) rfl ?_
   refine B7 rfl rfl (B4 1 rfl C4 rfl O5 (A0 rfl) rfl) ?_
   refine B7 rfl rfl (B3 0 rfl (A0 rfl) rfl Q5 rfl) ?_
   refine B7 rfl rfl (B4 2 rfl C4 rfl G4 (A0 rfl) rfl) ?_
   refine B7 rfl rfl (B3 0 rfl (A0 rfl) rfl J8 rfl) ?_
   refine B7 rfl rfl (C6 rfl (A0 rfl)) ?_
   refine B7 rfl rfl (R9 1 rfl D0 D3 (A0 rfl) rfl (A0 rfl) (by omega) (by simp only [A6]; omega)) ?_
   refine B7 rfl rfl (Z4 1 rfl F1 rfl K4 (A0 rfl) rfl rfl (hrow hhas)) ?_
   refine B7 rfl rfl (i4 1 rfl (A0 rfl) rfl L7 (hrow hhas) rfl) ?_
   refine B7 rfl rfl (B4 2 rfl B8 rfl C1 (A0 rfl) rfl) ?_
   refine B7 rfl rfl (B3 4 rfl (A0 rfl) rfl D1 rfl) ?_
   refine B7 rfl rfl (E5 rfl Tryz.call255 rfl (AZ8 s.Cells h.Writes r.Time hco hs1 (by omega)) (A7 (A0 rfl) (A7 (A0 rfl) (A7 (A0 rfl) C9)))) ?_
   refine B7 rfl rfl (C6 rfl (A0 rfl)) ?_
   refine B7 rfl rfl (F0 rfl (A0 rfl) rfl) ?_
   refine B7 rfl rfl (F0 rfl (A0 rfl) rfl) ?_
   refine B7 rfl rfl (C0 rfl (A0 rfl)) ?_
   refine B7 rfl rfl (C0 rfl (A0 rfl)) ?_
   refine P7 ?_
   refine A3 (A3 ?_)
   refine J3 (by first | (simp only [TState.ow, TState.ocs, pick, O2, N7, N8, N5, M9, List.nil_append, O3, O4, List.append_nil, N6, List.take_zero, N9, List.drop_zero]; exact rfl) | exact rfl) ?_
   refine A2 ?_
   refine A5 rfl rfl rfl rfl rfl ?_
   refine A1 rfl rfl rfl (J7 rfl (A0 rfl)) ?_
   refine A4 ?_
   refine C8 (A0 rfl) ?_ ?_
   ·intro h53
    have hdec : decR s r = (zState, false) := by (unfold decR; rw [if_pos h23, hfd hhas]; dsimp only; rw [if_neg (by omega), if_neg (by rw [← hpc.1]; simpa using h53)])
    rw [hdec]
    refine A3 (A2 ?_)
    refine A1 rfl rfl rfl (M7 (places := #[(0, 1), (1, 1), (2, 1), (3, 1)]) rfl C4 Tryz.zeroValue30 (fun w => by kernel_rfl) rfl H6 rfl) ?_
    refine D9 3 rfl rfl rfl (A0 rfl) (A0 rfl) (E9 _) rfl C5 rfl ?_
    refine A1 rfl rfl rfl (C0 rfl F3) ?_
    refine A4 ?_
    refine C7 ?_
    refine d4 3 1 2 rfl rfl R7 ?_
    refine T7 45 5 ?_
    refine T7 39 3 ?_
    exact J6 [1, 0] ((Value.slice none 0 0), (Value.slice none 0 0)) (trivial) rfl (by rfl) (S8 rfl (by decide) (E4 (J9 (ys := _) 5 rfl rfl D8 C5 rfl) (E4 (C3 rfl (by rfl)) J0)))
   ·intro h53
    have hok : (putCells s.Cells h.Writes r.Time).2 = true := by simpa using h53
    have hdec : decR s r = (doneS s r (if s.Floor < r.Time then r.Time else s.Floor) (putCells s.Cells h.Writes r.Time).1, true) := by (unfold decR; rw [if_pos h23, hfd hhas]; dsimp only; rw [if_neg (by omega), if_pos (by rw [← hpc.1]; exact hok), hpc.2 (by rw [← hpc.1]; exact hok)])
    refine D2 (A3 (A2 ?_))
    refine A5 rfl rfl rfl rfl rfl ?_
    refine A1 rfl rfl rfl (B4 1 rfl C4 rfl O5 (A0 rfl) rfl) ?_
    refine J4 0 rfl rfl rfl (A0 rfl) (A0 rfl) (T0 _ _) rfl O5 rfl ?_
    refine A4 (A2 ?_)
    refine A1 rfl rfl rfl (B4 0 rfl C4 rfl C1 (A0 rfl) rfl) ?_
    refine A1 rfl rfl rfl (B3 0 rfl (A0 rfl) rfl D1 rfl) ?_
    refine A1 rfl rfl rfl (B4 2 rfl B8 rfl C1 (A0 rfl) rfl) ?_
    refine A1 rfl rfl rfl (B3 4 rfl (A0 rfl) rfl D1 rfl) ?_
    refine A1 rfl rfl rfl (w_max rfl (A0 rfl) (A0 rfl)) ?_
    refine A1 rfl rfl rfl (B4 0 rfl C4 rfl C1 (A0 rfl) rfl) ?_
    refine J4 0 rfl rfl rfl (A0 rfl) (A0 rfl) (K6 _ _) rfl C1 rfl ?_
    refine A4 (A3 (A3 ?_))
    refine J3 (by first | (simp only [TState.ow, TState.ocs, pick, O2, N7, N8, N5, M9, List.nil_append, O3, O4, List.append_nil, N6, List.take_zero, N9, List.drop_zero]; exact rfl) | exact rfl) ?_
    refine A2 ?_
    refine A5 rfl rfl rfl rfl rfl ?_
    refine A4 ?_
    refine C8 (A0 rfl) ?_ ?_
    ·intro h63
     have hless : lessH s.Held r.Txn = s.Held.eraseIdx (hPos s.Held r.Txn) := by (rw [← (hh0 h63).2]; exact Ak9 hsr (hh0 h63).1 ▸ by rw [(hh0 h63).2])
     rw [hdec]
     unfold doneS
     rw [hless, hins]
     have hlt2 := hplt h63
     refine A2 ?_
     refine A1 rfl rfl rfl (B4 2 rfl C4 rfl G4 (A0 rfl) rfl) ?_
     refine A1 rfl rfl rfl (B3 0 rfl (A0 rfl) rfl J8 rfl) ?_
     refine A5 rfl rfl rfl rfl rfl ?_
     refine A5 rfl rfl rfl rfl rfl ?_
     refine A1 rfl rfl rfl (H0 rfl (A0 rfl) C2 (by first | omega | (simp only [A6, A8, B2, B6, A9, szR] at *; omega))) ?_
     refine I0 [1] rfl rfl rfl rfl Tryz.call256 rfl (AF8 _ s.Held (hPos s.Held r.Txn) hlt2 (by omega)) (A7 (A0 rfl) (A7 (A0 rfl) (A7 (A0 rfl) C9))) rfl ?_
     intro x69 ok69
     refine A1 rfl rfl rfl (B4 2 rfl C4 rfl G4 (A0 rfl) rfl) ?_
     refine Q8 0 rfl fun one_x69 => ?_
     refine J4 1 rfl rfl rfl (A0 rfl) (A0 rfl) (R5 one_x69) rfl G4 rfl ?_
     refine A4 (A3 ?_)
     refine J3 (by first | (simp only [TState.ow, TState.ocs, pick, O2, N7, N8, N5, M9, List.nil_append, O3, O4, List.append_nil, N6, List.take_zero, N9, List.drop_zero]; exact rfl) | exact rfl) ?_
     refine A2 ?_
     refine A1 rfl rfl rfl (F8 1 rfl (A0 rfl) rfl D8 C5 rfl) ?_
     refine A1 rfl rfl rfl (B4 1 rfl B8 rfl C1 (A0 rfl) rfl) ?_
     refine A1 rfl rfl rfl (B3 4 rfl (A0 rfl) rfl D1 rfl) ?_
     refine A1 rfl rfl rfl (V3 rfl Tryz.call97 rfl (m2 _ _ _ s.Told r.Txn hs3) (Y3 (D5 (F4 _ _) (D5 (F6 _) F5))) (M5 (f9 (A0 rfl) (Y0 (G3 J5 (G3 J5 (G3 (M2 (G2 (i := 0) rfl) I7) (G3 (M2 (G2 (i := 2) rfl) I7) S1)))))) (M5 (evb (A0 rfl)) T1))) ?_
     refine A5 rfl rfl rfl rfl rfl ?_
     refine A1 rfl rfl rfl (F0 rfl (A0 rfl) rfl) ?_
     refine A1 rfl rfl rfl (F0 rfl (A0 rfl) rfl) ?_
     refine B5 rfl rfl rfl rfl rfl ?_
     refine B5 rfl rfl rfl rfl rfl ?_
     refine A4 (A3 ?_)
     refine J3 (by first | (simp only [TState.ow, TState.ocs, pick, O2, N7, N8, N5, M9, List.nil_append, O3, O4, List.append_nil, N6, List.take_zero, N9, List.drop_zero]; exact rfl) | exact rfl) ?_
     refine A2 ?_
     refine A1 rfl rfl rfl (B4 3 rfl C4 rfl K5 (A0 rfl) rfl) ?_
     refine A1 rfl rfl rfl (B3 1 rfl (A0 rfl) rfl Q0 rfl) ?_
     refine A5 rfl rfl rfl rfl rfl ?_
     refine A1 rfl rfl rfl (B4 1 rfl B8 rfl C1 (A0 rfl) rfl) ?_
     refine A1 rfl rfl rfl (B3 4 rfl (A0 rfl) rfl D1 rfl) ?_
     refine A1 rfl rfl rfl (B4 6 rfl B8 rfl I8 (A0 rfl) rfl) ?_
     refine A1 rfl rfl rfl (B3 4 rfl (A0 rfl) rfl L2 rfl) ?_
     refine A1 rfl rfl rfl (B4 2 rfl B8 rfl C1 (A0 rfl) rfl) ?_
     refine A1 rfl rfl rfl (B3 4 rfl (A0 rfl) rfl D1 rfl) ?_
     refine A1 rfl rfl rfl (M7 (places := #[(0, 1), (1, 1), (2, 1)]) rfl I9 Tryz.zeroValue39 (fun w => by kernel_rfl) rfl (D7 (A0 rfl) (K6 _ _) (D7 (A0 rfl) (Y2 _) (D7 (A0 rfl) (K6 _ _) H6))) rfl) ?_
     refine m6 rfl rfl rfl rfl E6 G7 Tryz.zeroValue39 rfl rfl rfl rfl (D7 (A0 rfl) (E9 _) H6) rfl rfl ?_
     intro v88
     refine I0 [3, 0] rfl rfl rfl rfl Tryz.call257 rfl (n4 _ _ s.Told ⟨r.Txn, r.Yes, r.Time⟩ (tPos s.Told r.Txn) htle (by omega)) (A7 (A0 rfl) (A7 (A0 rfl) (A7 (A0 rfl) C9))) rfl ?_
     intro x89 ok89
     refine A1 rfl rfl rfl (B4 3 rfl C4 rfl K5 (A0 rfl) rfl) ?_
     refine Q8 0 rfl fun one_x89 => ?_
     refine J4 2 rfl rfl rfl (A0 rfl) (A0 rfl) (R5 one_x89) rfl K5 rfl ?_
     refine A4 (A3 ?_)
     refine J3 (by first | (simp only [TState.ow, TState.ocs, pick, O2, N7, N8, N5, M9, List.nil_append, O3, O4, List.append_nil, N6, List.take_zero, N9, List.drop_zero]; exact rfl) | exact rfl) ?_
     refine A2 ?_
     refine A1 rfl rfl rfl (F8 2 rfl (A0 rfl) rfl D8 C5 rfl) ?_
     refine D9 3 rfl rfl rfl (A0 rfl) (A0 rfl) (E9 _) rfl C5 rfl ?_
     refine A1 rfl rfl rfl (C0 rfl F3) ?_
     refine A4 ?_
     refine C7 ?_
     exact J6 [1, 0] (x69, x89) (trivial) rfl (by rfl) (S8 rfl (by decide) (E4 (J9 (ys := _) 3 rfl rfl D8 C5 rfl) (E4 (C3 rfl (by rfl)) J0)))
    ·intro h63
     have hless : lessH s.Held r.Txn = s.Held := Al0 (by rw [← n5 hsr]; exact h63)
     rw [hdec]
     unfold doneS
     rw [hless, hins]
     refine D2 (A3 ?_)
     refine J3 (by first | (simp only [TState.ow, TState.ocs, pick, O2, N7, N8, N5, M9, List.nil_append, O3, O4, List.append_nil, N6, List.take_zero, N9, List.drop_zero]; exact rfl) | exact rfl) ?_
     refine A2 ?_
     refine A1 rfl rfl rfl (F8 0 rfl (A0 rfl) rfl D8 C5 rfl) ?_
     refine A1 rfl rfl rfl (B4 1 rfl B8 rfl C1 (A0 rfl) rfl) ?_
     refine A1 rfl rfl rfl (B3 4 rfl (A0 rfl) rfl D1 rfl) ?_
     refine A1 rfl rfl rfl (V3 rfl Tryz.call97 rfl (m2 _ _ _ s.Told r.Txn hs3) (Y3 (D5 (F4 _ _) (D5 (F6 _) F5))) (M5 (f9 (A0 rfl) (Y0 (G3 J5 (G3 J5 (G3 (M2 (G2 (i := 1) rfl) I7) (G3 (M2 (G2 (i := 2) rfl) I7) S1)))))) (M5 (evb (A0 rfl)) T1))) ?_
     refine A5 rfl rfl rfl rfl rfl ?_
     refine A1 rfl rfl rfl (F0 rfl (A0 rfl) rfl) ?_
     refine A1 rfl rfl rfl (F0 rfl (A0 rfl) rfl) ?_
     refine B5 rfl rfl rfl rfl rfl ?_
     refine B5 rfl rfl rfl rfl rfl ?_
     refine A4 (A3 ?_)
     refine J3 (by first | (simp only [TState.ow, TState.ocs, pick, O2, N7, N8, N5, M9, List.nil_append, O3, O4, List.append_nil, N6, List.take_zero, N9, List.drop_zero]; exact rfl) | exact rfl) ?_
     refine A2 ?_
     refine A1 rfl rfl rfl (B4 3 rfl C4 rfl K5 (A0 rfl) rfl) ?_
     refine A1 rfl rfl rfl (B3 0 rfl (A0 rfl) rfl Q0 rfl) ?_
     refine A5 rfl rfl rfl rfl rfl ?_
     refine A1 rfl rfl rfl (B4 1 rfl B8 rfl C1 (A0 rfl) rfl) ?_
     refine A1 rfl rfl rfl (B3 4 rfl (A0 rfl) rfl D1 rfl) ?_
     refine A1 rfl rfl rfl (B4 6 rfl B8 rfl I8 (A0 rfl) rfl) ?_
     refine A1 rfl rfl rfl (B3 4 rfl (A0 rfl) rfl L2 rfl) ?_
     refine A1 rfl rfl rfl (B4 2 rfl B8 rfl C1 (A0 rfl) rfl) ?_
     refine A1 rfl rfl rfl (B3 4 rfl (A0 rfl) rfl D1 rfl) ?_
     refine A1 rfl rfl rfl (M7 (places := #[(0, 1), (1, 1), (2, 1)]) rfl I9 Tryz.zeroValue39 (fun w => by kernel_rfl) rfl (D7 (A0 rfl) (K6 _ _) (D7 (A0 rfl) (Y2 _) (D7 (A0 rfl) (K6 _ _) H6))) rfl) ?_
     refine m6 rfl rfl rfl rfl E6 G7 Tryz.zeroValue39 rfl rfl rfl rfl (D7 (A0 rfl) (E9 _) H6) rfl rfl ?_
     intro v88
     refine I0 [3, 0] rfl rfl rfl rfl Tryz.call257 rfl (n4 _ _ s.Told ⟨r.Txn, r.Yes, r.Time⟩ (tPos s.Told r.Txn) htle (by omega)) (A7 (A0 rfl) (A7 (A0 rfl) (A7 (A0 rfl) C9))) rfl ?_
     intro x89 ok89
     refine A1 rfl rfl rfl (B4 3 rfl C4 rfl K5 (A0 rfl) rfl) ?_
     refine Q8 0 rfl fun one_x89 => ?_
     refine J4 1 rfl rfl rfl (A0 rfl) (A0 rfl) (R5 one_x89) rfl K5 rfl ?_
     refine A4 (A3 ?_)
     refine J3 (by first | (simp only [TState.ow, TState.ocs, pick, O2, N7, N8, N5, M9, List.nil_append, O3, O4, List.append_nil, N6, List.take_zero, N9, List.drop_zero]; exact rfl) | exact rfl) ?_
     refine A2 ?_
     refine A1 rfl rfl rfl (F8 1 rfl (A0 rfl) rfl D8 C5 rfl) ?_
     refine D9 3 rfl rfl rfl (A0 rfl) (A0 rfl) (E9 _) rfl C5 rfl ?_
     refine A1 rfl rfl rfl (C0 rfl F3) ?_
     refine A4 ?_
     refine C7 ?_
     exact J6 [2, 0] (x14.1, x89) (trivial) rfl (by rfl) (S8 rfl (by decide) (E4 (J9 (ys := _) 3 rfl rfl D8 C5 rfl) (E4 (C3 rfl (by rfl)) J0)))
 ·intro h23
  have hdec : decR s r = (doneS s r s.Floor s.Cells, true) := by (unfold decR; rw [if_neg (by rw [h23]; decide)])
  refine D2 (A3 (A3 ?_))
  refine J3 (by first | (simp only [TState.ow, TState.ocs, pick, O2, N7, N8, N5, M9, List.nil_append, O3, O4, List.append_nil, N6, List.take_zero, N9, List.drop_zero]; exact rfl) | exact rfl) ?_
  refine A2 ?_
  refine A5 rfl rfl rfl rfl rfl ?_
  refine A4 ?_
  refine C8 (A0 rfl) ?_ ?_
  ·intro h63
   have hless : lessH s.Held r.Txn = s.Held.eraseIdx (hPos s.Held r.Txn) := by (rw [← (hh0 h63).2]; exact Ak9 hsr (hh0 h63).1 ▸ by rw [(hh0 h63).2])
   rw [hdec]
   unfold doneS
   rw [hless, hins]
   have hlt2 := hplt h63
   refine A2 ?_
   refine A1 rfl rfl rfl (B4 2 rfl C4 rfl G4 (A0 rfl) rfl) ?_
   refine A1 rfl rfl rfl (B3 0 rfl (A0 rfl) rfl J8 rfl) ?_
   refine A5 rfl rfl rfl rfl rfl ?_
   refine A5 rfl rfl rfl rfl rfl ?_
   refine A1 rfl rfl rfl (H0 rfl (A0 rfl) C2 (by first | omega | (simp only [A6, A8, B2, B6, A9, szR] at *; omega))) ?_
   refine I0 [1] rfl rfl rfl rfl Tryz.call256 rfl (AF8 _ s.Held (hPos s.Held r.Txn) hlt2 (by omega)) (A7 (A0 rfl) (A7 (A0 rfl) (A7 (A0 rfl) C9))) rfl ?_
   intro x69 ok69
   refine A1 rfl rfl rfl (B4 2 rfl C4 rfl G4 (A0 rfl) rfl) ?_
   refine Q8 0 rfl fun one_x69 => ?_
   refine J4 1 rfl rfl rfl (A0 rfl) (A0 rfl) (R5 one_x69) rfl G4 rfl ?_
   refine A4 (A3 ?_)
   refine J3 (by first | (simp only [TState.ow, TState.ocs, pick, O2, N7, N8, N5, M9, List.nil_append, O3, O4, List.append_nil, N6, List.take_zero, N9, List.drop_zero]; exact rfl) | exact rfl) ?_
   refine A2 ?_
   refine A1 rfl rfl rfl (F8 1 rfl (A0 rfl) rfl D8 C5 rfl) ?_
   refine A1 rfl rfl rfl (B4 1 rfl B8 rfl C1 (A0 rfl) rfl) ?_
   refine A1 rfl rfl rfl (B3 4 rfl (A0 rfl) rfl D1 rfl) ?_
   refine A1 rfl rfl rfl (V3 rfl Tryz.call97 rfl (m2 _ _ _ s.Told r.Txn hs3) (Y3 (D5 (F4 _ _) (D5 (F6 _) F5))) (M5 (f9 (A0 rfl) (Y0 (G3 J5 (G3 J5 (G3 (M2 (G2 (i := 0) rfl) I7) (G3 (M2 (G2 (i := 2) rfl) I7) S1)))))) (M5 (evb (A0 rfl)) T1))) ?_
   refine A5 rfl rfl rfl rfl rfl ?_
   refine A1 rfl rfl rfl (F0 rfl (A0 rfl) rfl) ?_
   refine A1 rfl rfl rfl (F0 rfl (A0 rfl) rfl) ?_
   refine B5 rfl rfl rfl rfl rfl ?_
   refine B5 rfl rfl rfl rfl rfl ?_
   refine A4 (A3 ?_)
   refine J3 (by first | (simp only [TState.ow, TState.ocs, pick, O2, N7, N8, N5, M9, List.nil_append, O3, O4, List.append_nil, N6, List.take_zero, N9, List.drop_zero]; exact rfl) | exact rfl) ?_
   refine A2 ?_
   refine A1 rfl rfl rfl (B4 3 rfl C4 rfl K5 (A0 rfl) rfl) ?_
   refine A1 rfl rfl rfl (B3 1 rfl (A0 rfl) rfl Q0 rfl) ?_
   refine A5 rfl rfl rfl rfl rfl ?_
   refine A1 rfl rfl rfl (B4 1 rfl B8 rfl C1 (A0 rfl) rfl) ?_
   refine A1 rfl rfl rfl (B3 4 rfl (A0 rfl) rfl D1 rfl) ?_
   refine A1 rfl rfl rfl (B4 6 rfl B8 rfl I8 (A0 rfl) rfl) ?_
   refine A1 rfl rfl rfl (B3 4 rfl (A0 rfl) rfl L2 rfl) ?_
   refine A1 rfl rfl rfl (B4 2 rfl B8 rfl C1 (A0 rfl) rfl) ?_
   refine A1 rfl rfl rfl (B3 4 rfl (A0 rfl) rfl D1 rfl) ?_
   refine A1 rfl rfl rfl (M7 (places := #[(0, 1), (1, 1), (2, 1)]) rfl I9 Tryz.zeroValue39 (fun w => by kernel_rfl) rfl (D7 (A0 rfl) (K6 _ _) (D7 (A0 rfl) (Y2 _) (D7 (A0 rfl) (K6 _ _) H6))) rfl) ?_
   refine m6 rfl rfl rfl rfl E6 G7 Tryz.zeroValue39 rfl rfl rfl rfl (D7 (A0 rfl) (E9 _) H6) rfl rfl ?_
   intro v88
   refine I0 [3, 0] rfl rfl rfl rfl Tryz.call257 rfl (n4 _ _ s.Told ⟨r.Txn, r.Yes, r.Time⟩ (tPos s.Told r.Txn) htle (by omega)) (A7 (A0 rfl) (A7 (A0 rfl) (A7 (A0 rfl) C9))) rfl ?_
   intro x89 ok89
   refine A1 rfl rfl rfl (B4 3 rfl C4 rfl K5 (A0 rfl) rfl) ?_
   refine Q8 0 rfl fun one_x89 => ?_
   refine J4 2 rfl rfl rfl (A0 rfl) (A0 rfl) (R5 one_x89) rfl K5 rfl ?_
   refine A4 (A3 ?_)
   refine J3 (by first | (simp only [TState.ow, TState.ocs, pick, O2, N7, N8, N5, M9, List.nil_append, O3, O4, List.append_nil, N6, List.take_zero, N9, List.drop_zero]; exact rfl) | exact rfl) ?_
   refine A2 ?_
   refine A1 rfl rfl rfl (F8 2 rfl (A0 rfl) rfl D8 C5 rfl) ?_
   refine D9 3 rfl rfl rfl (A0 rfl) (A0 rfl) (E9 _) rfl C5 rfl ?_
   refine A1 rfl rfl rfl (C0 rfl F3) ?_
   refine A4 ?_
   refine C7 ?_
   exact J6 [1, 0] (x69, x89) (trivial) rfl (by rfl) (S8 rfl (by decide) (E4 (J9 (ys := _) 3 rfl rfl D8 C5 rfl) (E4 (C3 rfl (by rfl)) J0)))
  ·intro h63
   have hless : lessH s.Held r.Txn = s.Held := Al0 (by rw [← n5 hsr]; exact h63)
   rw [hdec]
   unfold doneS
   rw [hless, hins]
   refine D2 (A3 ?_)
   refine J3 (by first | (simp only [TState.ow, TState.ocs, pick, O2, N7, N8, N5, M9, List.nil_append, O3, O4, List.append_nil, N6, List.take_zero, N9, List.drop_zero]; exact rfl) | exact rfl) ?_
   refine A2 ?_
   refine A1 rfl rfl rfl (F8 0 rfl (A0 rfl) rfl D8 C5 rfl) ?_
   refine A1 rfl rfl rfl (B4 1 rfl B8 rfl C1 (A0 rfl) rfl) ?_
   refine A1 rfl rfl rfl (B3 4 rfl (A0 rfl) rfl D1 rfl) ?_
   refine A1 rfl rfl rfl (V3 rfl Tryz.call97 rfl (m2 _ _ _ s.Told r.Txn hs3) (Y3 (D5 (F4 _ _) (D5 (F6 _) F5))) (M5 (f9 (A0 rfl) (Y0 (G3 J5 (G3 J5 (G3 (M2 (G2 (i := 1) rfl) I7) (G3 (M2 (G2 (i := 2) rfl) I7) S1)))))) (M5 (evb (A0 rfl)) T1))) ?_
   refine A5 rfl rfl rfl rfl rfl ?_
   refine A1 rfl rfl rfl (F0 rfl (A0 rfl) rfl) ?_
   refine A1 rfl rfl rfl (F0 rfl (A0 rfl) rfl) ?_
   refine B5 rfl rfl rfl rfl rfl ?_
   refine B5 rfl rfl rfl rfl rfl ?_
   refine A4 (A3 ?_)
   refine J3 (by first | (simp only [TState.ow, TState.ocs, pick, O2, N7, N8, N5, M9, List.nil_append, O3, O4, List.append_nil, N6, List.take_zero, N9, List.drop_zero]; exact rfl) | exact rfl) ?_
   refine A2 ?_
   refine A1 rfl rfl rfl (B4 3 rfl C4 rfl K5 (A0 rfl) rfl) ?_
   refine A1 rfl rfl rfl (B3 0 rfl (A0 rfl) rfl Q0 rfl) ?_
   refine A5 rfl rfl rfl rfl rfl ?_
   refine A1 rfl rfl rfl (B4 1 rfl B8 rfl C1 (A0 rfl) rfl) ?_
   refine A1 rfl rfl rfl (B3 4 rfl (A0 rfl) rfl D1 rfl) ?_
   refine A1 rfl rfl rfl (B4 6 rfl B8 rfl I8 (A0 rfl) rfl) ?_
   refine A1 rfl rfl rfl (B3 4 rfl (A0 rfl) rfl L2 rfl) ?_
   refine A1 rfl rfl rfl (B4 2 rfl B8 rfl C1 (A0 rfl) rfl) ?_
   refine A1 rfl rfl rfl (B3 4 rfl (A0 rfl) rfl D1 rfl) ?_
   refine A1 rfl rfl rfl (M7 (places := #[(0, 1), (1, 1), (2, 1)]) rfl I9 Tryz.zeroValue39 (fun w => by kernel_rfl) rfl (D7 (A0 rfl) (K6 _ _) (D7 (A0 rfl) (Y2 _) (D7 (A0 rfl) (K6 _ _) H6))) rfl) ?_
   refine m6 rfl rfl rfl rfl E6 G7 Tryz.zeroValue39 rfl rfl rfl rfl (D7 (A0 rfl) (E9 _) H6) rfl rfl ?_
   intro v88
   refine I0 [3, 0] rfl rfl rfl rfl Tryz.call257 rfl (n4 _ _ s.Told ⟨r.Txn, r.Yes, r.Time⟩ (tPos s.Told r.Txn) htle (by omega)) (A7 (A0 rfl) (A7 (A0 rfl) (A7 (A0 rfl) C9))) rfl ?_
   intro x89 ok89
   refine A1 rfl rfl rfl (B4 3 rfl C4 rfl K5 (A0 rfl) rfl) ?_
   refine Q8 0 rfl fun one_x89 => ?_
   refine J4 1 rfl rfl rfl (A0 rfl) (A0 rfl) (R5 one_x89) rfl K5 rfl ?_
   refine A4 (A3 ?_)
   refine J3 (by first | (simp only [TState.ow, TState.ocs, pick, O2, N7, N8, N5, M9, List.nil_append, O3, O4, List.append_nil, N6, List.take_zero, N9, List.drop_zero]; exact rfl) | exact rfl) ?_
   refine A2 ?_
   refine A1 rfl rfl rfl (F8 1 rfl (A0 rfl) rfl D8 C5 rfl) ?_
   refine D9 3 rfl rfl rfl (A0 rfl) (A0 rfl) (E9 _) rfl C5 rfl ?_
   refine A1 rfl rfl rfl (C0 rfl F3) ?_
   refine A4 ?_
   refine C7 ?_
   exact J6 [2, 0] (x14.1, x89) (trivial) rfl (by rfl) (S8 rfl (by decide) (E4 (J9 (ys := _) 3 rfl rfl D8 C5 rfl) (E4 (C3 rfl (by rfl)) J0)))
end Go.Proofs.YtnlhbdkcgaeimaaGreat

set_option linter.unusedVariables false
set_option linter.unusedSimpArgs false
namespace Go.M
open Go.AV
def settled (s : TState) : Int := s.Held.foldl (fun o h => min o (h.Time - 1)) s.Floor
structure Keeps (s s' : TState) : Prop where
  floor : s.Floor ≤ s'.Floor
  told : ∀ t ∈ s.Told, t ∈ s'.Told
  tlen : s.Told.length ≤ s'.Told.length
  settled : settled s ≤ settled s'
  cells : ∀ a, a ≤ M.settled s → cellsAt s'.Cells a = cellsAt s.Cells a
theorem Keeps.refl (s : TState) : Keeps s s := ⟨Int.le_refl _, fun _ h => h, Nat.le_refl _, Int.le_refl _, fun _ _ => rfl⟩
theorem Keeps.trans {a b c : TState} (h : Keeps a b) (k : Keeps b c) : Keeps a c :=
  ⟨Int.le_trans h.floor k.floor, fun t ht => k.told t (h.told t ht), Nat.le_trans h.tlen k.tlen, Int.le_trans h.settled k.settled, fun x hx => (k.cells x (Int.le_trans hx h.settled)).trans (h.cells x hx)⟩
theorem Ax7 {l : List TTold} (h : l.Pairwise fun a b => a.Txn < b.Txn) {a b : TTold} (ha : a ∈ l) (hb : b ∈ l) (e : a.Txn = b.Txn) : a = b := by
  obtain ⟨i, hi⟩ := List.getElem?_of_mem ha
  obtain ⟨j, hj⟩ := List.getElem?_of_mem hb
  obtain ⟨i1, i2⟩ := List.getElem?_eq_some_iff.1 hi
  obtain ⟨j1, j2⟩ := List.getElem?_eq_some_iff.1 hj
  have hp := List.pairwise_iff_getElem.1 h
  rcases Nat.lt_trichotomy i j with h1 | h1 | h1
  · have := hp i j i1 j1 h1; rw [i2, j2] at this; omega
  · subst h1; rw [hi] at hj; injection hj
  · have := hp j i j1 i1 h1; rw [i2, j2] at this; omega
theorem Ax8 {l : List TTold} (h : l.Pairwise fun a b => a.Txn < b.Txn) {t : TTold} (ht : t ∈ l) : findT l t.Txn = some t := by
  unfold findT
  cases e : l.find? fun x => x.Txn == t.Txn with
  | none => rw [List.find?_eq_none] at e; have := e t ht; simp at this
  | some u => rw [Ax7 h (List.mem_of_find?_eq_some e) ht (by simpa using List.find?_some e)]
theorem Al1 {t : Int} : ∀ {w : List TWrite} {l : List TCell}, (w.map TWrite.Key).Nodup → (∀ x ∈ w, lastTime l x.Key < t) → ∃ q, putAll l w t = some q
  | [], l, _, _ => ⟨l, rfl⟩
  | x :: w, l, hn, h => by
    rw [List.map_cons, List.nodup_cons] at hn
    unfold putAll
    rw [if_neg (by have := h x List.mem_cons_self; simp; omega)]
    refine Al1 hn.2 fun y hy => ?_
    have hne : y.Key ≠ x.Key := fun e => hn.1 (e ▸ List.mem_map_of_mem hy)
    unfold putC1
    rw [AY6 (n3 (l := l) hne)]
    exact h y (List.mem_cons_of_mem _ hy)
theorem Ar0 {t : Int} : ∀ {w : List TWrite} {l q : List TCell}, adj cLess l = true → putAll l w t = some q → adj cLess q = true
  | [], l, q, h, e => by simp [putAll] at e; rw [← e]; exact h
  | x :: w, l, q, h, e => by
    unfold putAll at e
    split at e
    · cases e
    · exact Ar0 (AH7 _ _ h) e
theorem Al2 {α : Type} {p : α → α → Bool} {v : α} : ∀ {l : List α}, adj p l = true → (∀ u, l.getLast? = some u → p u v = true) → adj p (l ++ [v]) = true
  | [], _, _ => rfl
  | [x], _, h => by simp [adj, h x rfl]
  | x :: y :: l, ha, h => by
    simp only [adj, Bool.and_eq_true] at ha
    simp only [M9, adj, Bool.and_eq_true]
    exact ⟨ha.1, Al2 (l := y :: l) ha.2 fun u hu => h u (by rw [List.getLast?_cons_cons]; exact hu)⟩
theorem An8 {l : List TCell} {k : Str} {u : TVer} (h : (versOf l k).getLast? = some u) : lastTime l k = u.Time := by
  unfold versOf at h
  unfold lastTime lastV
  cases e : findC l k with
  | none => rw [e] at h; cases h
  | some c => rw [e] at h; dsimp only at h ⊢; rw [h]
theorem put_room {l : List TCell} (hl : goodCells l = true) {w ws : List TWrite} {t : Int} (hw : goodWrites w = true) (ht : isTime t = true) (hsub : ∀ x ∈ w, x ∈ ws) (hr : room l ws = true) (hlt : ∀ x ∈ w, lastTime l x.Key < t) : (putP l w t).2 = true := by
  have hn := AL8 hw
  obtain ⟨f1, f2, f3⟩ := Z7 hl
  obtain ⟨q, hq⟩ := Al1 hn hlt
  have hqa := Ar0 f2 hq
  obtain ⟨p1, p2⟩ := AH8 hn f2 hq
  have hr2 := room_sub hsub hr
  unfold room at hr2
  simp only [Bool.and_eq_true, List.all_eq_true, decide_eq_true_eq, Bool.not_eq_true'] at hr2
  unfold putP
  rw [hq]
  dsimp only
  rw [← U6]
  refine Ai7 ?_ hqa fun c hc => ?_
  · have hs : SrtS (cKeys q) := by
      unfold cKeys SrtS
      rw [List.pairwise_map]
      exact (AD4 c7).1 hqa
    have : (cKeys q).length ≤ (roomKs l w).length := Aq5 hs fun k hk => AI0.2 (put_keys hn f2 hqa hq k hk)
    unfold cKeys at this
    rw [A6] at this
    omega
  · obtain ⟨i, hi⟩ := List.getElem?_of_mem hc
    have hf := AS5 hqa hi
    by_cases hm : c.Key ∈ w.map TWrite.Key
    · obtain ⟨x, hx, e⟩ := List.mem_map.1 hm
      have h1 := p1 x hx
      rw [e, hf] at h1
      injection h1 with h1
      have hfull := hr2.1 x hx
      have hxs : isStored x.Val x.Gone = true := by
        unfold goodWrites at hw
        simp only [Bool.and_eq_true, Bool.not_eq_true', List.any_eq_false] at hw
        have := hw.2 x hx; simpa using this
      have hvl : (versOf l c.Key).length ≤ 15 ∧ adj verLess (versOf l c.Key) = true ∧ ∀ v ∈ versOf l c.Key, verGood v = true := by
        rw [← e]
        unfold versOf
        unfold fullC at hfull
        cases hfl : findC l x.Key with
        | none => exact ⟨Nat.zero_le _, rfl, fun v hv => by cases hv⟩
        | some d =>
          rw [hfl] at hfull
          have := f3 d (q7 hfl).1
          dsimp only at hfull ⊢
          have := of_decide_eq_false hfull
          exact ⟨by omega, (f3 d (q7 hfl).1).2.2.2.1, (f3 d (q7 hfl).1).2.2.2.2⟩
      refine ⟨e ▸ AH9 hw hx, ?_⟩
      have hcv : c.Vers = versOf l c.Key ++ [⟨t, x.Val, x.Gone⟩] := by rw [h1]
      rw [hcv]
      refine ⟨by simp, by rw [H9]; simp; omega, Al2 hvl.2.1 fun u hu => ?_, fun v hv => ?_⟩
      · have := An8 hu
        have h2 := hlt x hx
        rw [e, this] at h2
        unfold verLess; simpa using h2
      · rcases List.mem_append.1 hv with hv | hv
        · exact hvl.2.2 v hv
        · rw [List.mem_singleton.1 hv]; unfold verGood; rw [ht, hxs]; rfl
    · rw [p2 c.Key hm] at hf
      exact f3 c (q7 hf).1
end Go.M

set_option linter.unusedVariables false
set_option linter.unusedSimpArgs false
set_option maxRecDepth 100000
set_option maxHeartbeats 1000000
namespace Go.M
open Go.AV
def applyRecR (s : TState) (r : TRec) : TState × Bool := if goodState s = true ∧ goodRec r = true then appR s r else (zState, false)
theorem AR3 {s : TState} {l : List TRec} {i : Nat} {r : TRec} (h : l[i]? = some r) : stFrom s (l.take (i + 1)) = stepS (stFrom s (l.take i)) r := by
  unfold stFrom
  rw [List.take_add_one, h, List.foldl_append]; rfl
theorem AG1 : ∀ {l : List TRec} {s : TState} {r : TRec}, didFrom s (l ++ [r]) = didFrom s l ++ [(applyS (stFrom s l) r).2]
  | [], s, r => rfl
  | x :: l, s, r => by
    show _ :: didFrom (stepS s x) (l ++ [r]) = _
    rw [AG1]; rfl
theorem AN2 {s : TState} {l : List TRec} {i : Nat} {r : TRec} (h : l[i]? = some r) : didFrom s (l.take (i + 1)) = didFrom s (l.take i) ++ [(applyS (stFrom s (l.take i)) r).2] := by
  rw [List.take_add_one, h]; exact AG1
def phi (s : TState) : Nat := sizeL TCell.size s.Cells + 3 * sizeL THeld.size s.Held + s.Told.length
theorem AT3 (s : TState) : s.size ≤ phi s := by
  have h1 : s.size = sizeL TCell.size s.Cells + sizeL THeld.size s.Held + s.Told.length := rfl
  unfold phi; omega
theorem AW8 {α : Type} {f : α → Nat} {a b : List α} (h : a.Perm b) : sizeL f a = sizeL f b := by
  unfold sizeL; rw [h.length_eq, (h.map f).sum_nat]
theorem Al3 {t : Int} : ∀ {w : List TWrite} {l q : List TCell}, putAll l w t = some q → sizeL TCell.size q ≤ sizeL TCell.size l + 2 * sizeL TWrite.size w
  | [], l, q, h => by simp [putAll] at h; subst h; omega
  | x :: w, l, q, h => by
    unfold putAll at h
    split at h
    · cases h
    · have h1 := Al3 h
      have h2 := i6 l x t
      rw [L1]; omega
theorem At8 {l : List THeld} {n : Int} {h : THeld} (hf : findH l n = some h) : sizeL THeld.size (lessH l n) + (1 + h.size) ≤ sizeL THeld.size l := by
  induction l with
  | nil => simp [findH] at hf
  | cons g l ih =>
    unfold findH at hf ih
    rw [List.find?_cons] at hf
    unfold lessH at ih ⊢
    by_cases e : g.Txn = n
    · rw [beq_iff_eq.2 e] at hf
      injection hf with hf; subst hf
      rw [List.filter_cons_of_neg (by simp [e]), L1]
      have : sizeL THeld.size (l.filter fun h => h.Txn != n) ≤ sizeL THeld.size l := by
        clear ih
        induction l with
        | nil => exact Nat.le_refl _
        | cons y l ih =>
          rw [List.filter_cons]
          split
          · rw [L1, L1]; omega
          · rw [L1]; omega
      omega
    · rw [beq_eq_false_iff_ne.2 e] at hf
      rw [List.filter_cons_of_pos (by simp [e]), L1, L1]
      have := ih hf; omega
theorem AR4 (l : List THeld) (n : Int) : sizeL THeld.size (lessH l n) ≤ sizeL THeld.size l := by
  induction l with
  | nil => exact Nat.le_refl _
  | cons y l ih =>
    unfold lessH at ih ⊢
    rw [List.filter_cons]
    split
    · rw [L1, L1]; omega
    · rw [L1]; omega
theorem Ae1 (s : TState) (r : TRec) : phi (applyS s r).1 ≤ phi s + 3 * (1 + r.size) + 1 := by
  have hh : (hOf r).size = r.size := rfl
  have hins : sizeL THeld.size (insH (hOf r) s.Held) = 1 + r.size + sizeL THeld.size s.Held := by rw [AW8 (q6 _ _), L1, hh]
  have htl : ∀ t : TTold, (insT t s.Told).length = s.Told.length + 1 := fun t => by rw [(AM1 _ _).length_eq]; rfl
  have h2 := AR4 s.Held r.Txn
  unfold applyS
  split
  · unfold phi; dsimp only; omega
  · split
    · dsimp only; omega
    · split
      · unfold phi; dsimp only; rw [hins]; omega
      · split
        · cases hf : findH s.Held r.Txn with
          | none => dsimp only; omega
          | some h =>
            dsimp only
            split
            · dsimp only; omega
            · split
              · rename_i hp
                have h3 := Al3 (AY7 hp).1
                have h4 := At8 hf
                have h5 : h.size = sizeL (fun x => x.length) h.Reads + sizeL TWrite.size h.Writes := rfl
                unfold doneS phi; dsimp only; rw [htl]; omega
              · dsimp only; omega
        · unfold doneS phi; dsimp only; rw [htl]; omega
theorem phi_step (s : TState) (r : TRec) : phi (stepS s r) ≤ phi s + 3 * (1 + r.size) + 1 := by
  unfold stepS
  split
  · exact Ae1 s r
  · omega
theorem AT4 {m : Nat} : ∀ {l : List TRec} {s : TState}, (∀ r ∈ l, r.size ≤ m) → phi (stFrom s l) ≤ phi s + l.length * (3 * (1 + m) + 1)
  | [], s, _ => by simp [stFrom]
  | r :: l, s, h => by
    have h1 := phi_step s r
    have h2 := AT4 (l := l) (s := stepS s r) fun x hx => h x (List.mem_cons_of_mem _ hx)
    have h3 := h r List.mem_cons_self
    have h4 : stFrom s (r :: l) = stFrom (stepS s r) l := rfl
    rw [h4, B2, Nat.add_mul, Nat.one_mul]
    omega
theorem Af7 {r : TRec} (h : goodRec r = true) : r.size ≤ 400 := by
  have g := goodR h
  have h1 : sizeL (fun x : Str => x.length) r.Reads ≤ r.Reads.length * 13 := AL7 fun x hx => AV0 (g.reads.2 x hx)
  have h2 : sizeL TWrite.size r.Writes ≤ r.Writes.length * 37 := AL7 (f := TWrite.size) fun x hx => by
    have := g.writes.2 x hx
    have k1 := AV0 this.1
    have k2 := As3 this.2.1
    show x.Key.length + x.Val.length ≤ 36
    omega
  have h3 : r.size = sizeL (fun x : Str => x.length) r.Reads + sizeL TWrite.size r.Writes := rfl
  have := g.reads.1
  have := g.writes.1
  omega
def blocksOf (l : List THeld) (k : Str) (t : Int) : List Int := (l.filter fun h => hasK h.Writes k && decide (h.Time ≤ t)).map THeld.Txn
def blocksR (s : TState) (k : Str) (t : Int) : List Int × Bool := if (goodState s && goodKey k && isTrue t) = true then (blocksOf s.Held k t, true) else ([], false)
def zTold : TTold := ⟨0, false, 0⟩
def zHeld : THeld := ⟨0, 0, 0, [], []⟩
def outcomeR (s : TState) (n : Int) : TTold × Bool := if goodState s = true then (match findT s.Told n with | some t => (t, true) | none => (zTold, false)) else (zTold, false)
def heldR (s : TState) (n : Int) : THeld × Bool := if goodState s = true then (match findH s.Held n with | some t => (t, true) | none => (zHeld, false)) else (zHeld, false)
def fitsR (s : TState) (rs : List Str) (ws : List TWrite) : Bool × Bool := if (goodState s && goodRec ⟨1, 1, 1, 0, rs, ws, false⟩) = true then (fits s rs ws, true) else (false, false)
theorem AW9 {l : List TTold} {n : Int} : findT l n = none ↔ hasT l n = false := by
  unfold findT hasT; rw [List.find?_eq_none, List.any_eq_false]
theorem AX0 {l : List THeld} {i : Nat} {h : THeld} {k : Str} {t : Int} (hx : l[i]? = some h) (hc : (hasK h.Writes k && decide (h.Time ≤ t)) = true) : blocksOf (l.take (i + 1)) k t = blocksOf (l.take i) k t ++ [h.Txn] := by
  unfold blocksOf; rw [List.take_add_one, hx, List.filter_append, List.map_append]
  show _ ++ List.map _ (List.filter _ [h]) = _
  rw [List.filter_cons_of_pos (p := fun h : THeld => hasK h.Writes k && decide (h.Time ≤ t)) hc]; rfl
theorem Ae2 {l : List THeld} {i : Nat} {h : THeld} {k : Str} {t : Int} (hx : l[i]? = some h) (hc : (hasK h.Writes k && decide (h.Time ≤ t)) = false) : blocksOf (l.take (i + 1)) k t = blocksOf (l.take i) k t := by
  unfold blocksOf; rw [List.take_add_one, hx, List.filter_append, List.map_append]
  show _ ++ List.map _ (List.filter _ [h]) = _
  rw [List.filter_cons_of_neg (p := fun h : THeld => hasK h.Writes k && decide (h.Time ≤ t)) (by rw [hc]; decide)]; simp
theorem At9 (l : List THeld) (k : Str) (t : Int) : (blocksOf l k t).length ≤ l.length := by unfold blocksOf; rw [A6]; exact List.length_filter_le _ _
theorem AX1 {s : TState} (g : GS s) {h : THeld} (hm : h ∈ s.Held) : 1 ≤ h.Time ∧ h.Time ≤ 100000 ∧ adj wLess h.Writes = true := by
  obtain ⟨g1, g2, g3⟩ := g.good h hm
  have h1 := g1
  unfold goodRec hRec at h1
  rw [if_pos rfl] at h1
  unfold good1 isTime within at h1
  simp only [Bool.and_eq_true, decide_eq_true_eq] at h1
  exact ⟨by omega, by omega, s9 g1⟩
end Go.M
namespace Go.Proofs.YtnlhbdkcgaeimaaGreat
open Go Go.AV Go.M
attribute [local irreducible] OpW OpA OpS AWP FSpec ESpec GSpec OpE RetOk RetOkG RvDen Le Ev GuardIs SrcIs Int.tmod Int.tdiv IntKind.wrap
theorem Af8 (rs : List Str) (ws : List TWrite) (hs : sizeL (fun x : Str => x.length) rs + sizeL TWrite.size ws ≤ 1048576) : FSpec Tryz.prog 124 [strs rs, AV.list 3 (ws.map TWrite.cs)] (AV.bool (goodRec ⟨1, 1, 1, 0, rs, ws, false⟩)) := by
 refine E7 Tryz.func124 rfl Tryz.ntmps124 rfl ?_
 refine A3 (A2 ?_)
 refine A1 rfl rfl rfl (C0 rfl F3) ?_
 refine A4 (A3 (A2 ?_))
 refine A5 rfl rfl rfl rfl rfl ?_
 refine A5 rfl rfl rfl rfl rfl ?_
 refine A1 rfl rfl rfl (M7 (places := #[(0, 1), (1, 1), (2, 1), (3, 1), (4, 1), (5, 1), (6, 1)]) rfl B8 Tryz.zeroValue49 (fun w => by kernel_rfl) rfl (D7 C2 (K6 _ _) (D7 C2 (K6 _ _) (D7 C2 (K6 _ _) (D7 (A0 rfl) (T0 _ _) (D7 (A0 rfl) (T0 _ _) H6))))) rfl) ?_
 refine A1 rfl rfl rfl (E5 rfl Tryz.call83 rfl (AC2 ⟨1, 1, 1, 0, rs, ws, false⟩ hs) (A7 (A0 rfl) C9)) ?_
 refine B5 rfl rfl rfl rfl rfl ?_
 refine A4 ?_
 refine C7 ?_
 exact I2 rfl (C3 rfl (by first | rfl | (refine congrArg AV.bool ?_; simp_all; done)))
theorem room_app (s : TState) (e : List (List AV)) (l : List THeld) (rs : List Str) (ws : List TWrite) (he : e = (l ++ [(⟨0, 0, 0, rs, ws⟩ : THeld)]).map THeld.cs) (hg : goodCells s.Cells = true) (hs : s.size ≤ 1048576) (hh : sizeL THeld.size (l ++ [(⟨0, 0, 0, rs, ws⟩ : THeld)]) ≤ 1048576) : FSpec Tryz.prog 188 [AV.agg s.cs, AV.list 5 e] (AV.bool (decide (l.length < 12) && room s.Cells (hWs l ++ ws))) := by
  have h := Ad7 s (l ++ [(⟨0, 0, 0, rs, ws⟩ : THeld)]) hg hs hh
  have e1 : hWs (l ++ [(⟨0, 0, 0, rs, ws⟩ : THeld)]) = hWs l ++ ws := by rw [AV7, AB9]; simp [hWs]
  rw [e1, ← he] at h
  have e2 : decide ((l ++ [(⟨0, 0, 0, rs, ws⟩ : THeld)]).length ≤ 12) = decide (l.length < 12) := by rw [H9, decide_eq_decide]; simp; omega
  rw [e2] at h
  exact h
theorem Ae3 (s : TState) (rs : List Str) (ws : List TWrite) (hg : goodState s = true) (hs : s.size ≤ 500000) (hw : sizeL (fun x : Str => x.length) rs + sizeL TWrite.size ws ≤ 500000) (hwa : adj wLess ws = true) : FSpec Tryz.prog 125 [AV.agg s.cs, strs rs, AV.list 3 (ws.map TWrite.cs)] (AV.bool (fits s rs ws)) := by
 have g := U8.1 hg
 obtain ⟨hs1, hs2, hs3, hs4, hs5⟩ := R4 hs
 have hwl := O1 (f := TWrite.size) (l := ws)
 have hl9 : (⟨0, 0, 0, rs, ws⟩ : THeld).Writes.length ≤ 4611686018427387903 := by show ws.length ≤ _; omega
 have ha9 : adj wLess (⟨0, 0, 0, rs, ws⟩ : THeld).Writes = true := hwa
 have hpre : ∀ k ∈ s.Held, adj wLess k.Writes = true ∧ k.Writes.length ≤ 4611686018427387903 := fun k hk => by
  obtain ⟨i, hi⟩ := List.getElem?_of_mem hk
  have := U7 hs2 hi
  exact ⟨s9 (g.good k hk).1, by omega⟩
 have hany : (s.Held.any fun k => clash ⟨0, 0, 0, rs, ws⟩ k) = !(s.Held.all fun k => apart k rs ws) := by
  rw [List.not_all_eq_any_not]; congr 1; funext k; rw [AE5]
 have hsz : sizeL THeld.size (s.Held ++ [⟨0, 0, 0, rs, ws⟩]) ≤ 1048576 := by
  rw [l9, L1]
  show _ + (1 + (sizeL (fun x : Str => x.length) rs + sizeL TWrite.size ws) + 0) ≤ _
  omega
 refine E7 Tryz.func125 rfl Tryz.ntmps125 rfl ?_
 refine A3 (A2 ?_)
 refine L9 rfl rfl rfl rfl (A0 rfl) ?_
 intro b3
 refine A1 rfl rfl rfl (C0 rfl F3) ?_
 refine A4 (A3 (A2 ?_))
 refine A5 rfl rfl rfl rfl rfl ?_
 refine A5 rfl rfl rfl rfl rfl ?_
 refine A1 rfl rfl rfl (M7 (places := #[(0, 1), (1, 1), (2, 1), (3, 1), (4, 1)]) rfl F1 Tryz.zeroValue45 (fun w => by kernel_rfl) rfl (D7 (A0 rfl) (T0 _ _) (D7 (A0 rfl) (T0 _ _) H6)) rfl) ?_
 refine G5 rfl rfl rfl rfl Tryz.zeroValue45 rfl ?_
 intro b7
 refine D9 0 rfl rfl rfl (A0 rfl) (A0 rfl) (E9 _) rfl D3 rfl ?_
 refine A4 (A3 (A3 ?_))
 refine J3 (show _ = [Own.box b7 45 (THeld.cs ⟨0, 0, 0, rs, ws⟩), Own.box b3 30 s.cs] from rfl) ?_
 refine A2 ?_
 refine A1 rfl rfl rfl (B4 2 rfl C4 rfl G4 (A0 rfl) rfl) ?_
 refine A1 rfl rfl rfl (B3 1 rfl (A0 rfl) rfl J8 rfl) ?_
 refine A1 rfl rfl rfl (Ag2 rfl rfl (A7 (A0 rfl) C9)) ?_
 refine A1 rfl rfl rfl (V3 rfl Tryz.call183 rfl (q8 s.Held (fun g => adj wLess g.Writes = true ∧ g.Writes.length ≤ 4611686018427387903) (fun k => clash ⟨0, 0, 0, rs, ws⟩ k) hpre) (F6 _) (M5 (evb (A0 rfl)) (M5 (AA0 (Ah1 0 (A0 rfl) rfl) (AG7 Tryz.call220 (fun g hg => At5 _ g (by first | assumption | omega) (by assumption) hg))) T1))) ?_
 refine A4 ?_
 refine C8 (A0 rfl) ?_ ?_
 ·intro h14
  refine A3 (A2 ?_)
  refine A1 rfl rfl rfl (C0 rfl F3) ?_
  refine A4 ?_
  refine C7 ?_
  exact I2 rfl (C3 rfl (by first | exact congrArg AV.bool (by unfold fits; rw [hany] at h14; simp only [Bool.not_eq_true'] at h14; rw [h14]; rfl) | exact congrArg AV.bool (by unfold fits; rw [hany] at h14; simp only [Bool.not_eq_false'] at h14; rw [h14]; rfl)))
 ·intro h14
  refine D2 (A3 ?_)
  refine S0 _ [(0, false), (1, false), (2, false), (4, false), (5, false), (3, true), (6, true)] (by kernel_rfl) (by kernel_rfl) rfl p6 ?_
  refine F9 rfl rfl rfl (fun ext => F8 1 rfl (A0 rfl) rfl D8 C5 rfl) ?_
  refine F9 rfl rfl rfl (fun ext => B4 2 rfl C4 rfl G4 (A0 rfl) rfl) ?_
  refine F9 rfl rfl rfl (fun ext => B3 1 rfl (A0 rfl) rfl J8 rfl) ?_
  refine F9 rfl rfl rfl (fun ext => F8 0 rfl (A0 rfl) rfl H8 D3 rfl) ?_
  refine F9 rfl rfl rfl (fun ext => M8 rfl D0 D3 Tryz.zeroValue45 rfl rfl rfl rfl (D7 (A0 rfl) (E9 _) H6) rfl rfl) ?_
  refine T5 rfl rfl rfl (d3 [] rfl Tryz.call221 rfl (AY9 _ (by first | assumption | omega)) (A7 (A0 rfl) C9) rfl) (fun a _ => (by first | exact G1 rfl | exact G1 (List.append_assoc _ _ _) | exact J1)) ?_
  intro x18 ok18
  refine T5 rfl rfl rfl (Q1 (by' := 72) 2 rfl D0 Tryz.type45 rfl rfl rfl rfl rfl rfl (A0 rfl) (A0 rfl) rfl (by first | omega | (simp only [A6, A8, B2, B6, A9, szR] at *; omega))) (fun a _ => (by first | exact G1 rfl | exact G1 (List.append_assoc _ _ _) | exact J1)) ?_
  intro v21_1 _
  refine j4 ?_
  refine A1 rfl rfl rfl (V3 rfl Tryz.call188 rfl (room_app s _ s.Held rs ws (by rw [List.map_append]; rfl) g.cells (by omega) hsz) (F6 _) (M5 (evb (A0 rfl)) (M5 (AX9 2 (A0 rfl) rfl) T1))) ?_
  refine B5 rfl rfl rfl rfl rfl ?_
  refine A4 ?_
  refine C7 ?_
  exact I2 rfl (C3 rfl (by first | exact congrArg AV.bool (by unfold fits; rw [hany] at h14; simp only [Bool.not_eq_true'] at h14; rw [h14]; rfl) | exact congrArg AV.bool (by unfold fits; rw [hany] at h14; simp only [Bool.not_eq_false'] at h14; rw [h14]; rfl)))
theorem AG2 (s : TState) (rs : List Str) (ws : List TWrite) (hs : s.size ≤ 500000) (hw : sizeL (fun x : Str => x.length) rs + sizeL TWrite.size ws ≤ 500000) : FSpec Tryz.prog 38 [AV.agg s.cs, strs rs, AV.list 3 (ws.map TWrite.cs)] (AV.tup [AV.bool (fitsR s rs ws).1, AV.bool (fitsR s rs ws).2]) := by
 refine E7 Tryz.func38 rfl Tryz.ntmps38 rfl ?_
 refine A3 (A2 ?_)
 refine L9 rfl rfl rfl rfl (A0 rfl) ?_
 intro b3
 refine A1 rfl rfl rfl (C0 rfl F3) ?_
 refine A1 rfl rfl rfl (C0 rfl F3) ?_
 refine A4 (A3 (A3 (A2 ?_)))
 refine A1 rfl rfl rfl (F8 0 rfl (A0 rfl) rfl D8 C5 rfl) ?_
 refine A1 rfl rfl rfl (E5 rfl Tryz.call15 rfl (c8 _ (by first | assumption | omega)) (A7 (A0 rfl) C9)) ?_
 refine A1 rfl rfl rfl (J7 rfl (A0 rfl)) ?_
 refine A5 rfl rfl rfl rfl rfl ?_
 refine B1 rfl rfl (D4 rfl rfl rfl) (fun hc => C6 rfl (A0 rfl)) ?_
 refine B1 rfl rfl (D4 rfl rfl rfl) (fun hc => C6 rfl (A0 rfl)) ?_
 refine B1 rfl rfl (D4 rfl rfl rfl) (fun hc => E5 rfl Tryz.call124 rfl (Af8 _ _ (by first | assumption | omega)) (A7 (B0 rfl hc) (A7 (B0 rfl hc) C9))) ?_
 refine B1 rfl rfl (D4 rfl rfl rfl) (fun hc => J7 rfl (B0 rfl hc)) ?_
 refine A1 rfl rfl rfl (P5 rfl (A0 rfl) (G0 rfl)) ?_
 refine A4 ?_
 refine C8 (A0 rfl) ?_ ?_
 ·intro h16
  have he : fitsR s rs ws = (false, false) := by (unfold fitsR; rw [if_neg (by intro h; rw [Bool.and_eq_true] at h; rw [h.1, h.2] at h16; cases h16)])
  rw [he]
  refine A3 (A2 ?_)
  refine A1 rfl rfl rfl (C0 rfl F3) ?_
  refine A1 rfl rfl rfl (C0 rfl F3) ?_
  refine A4 ?_
  refine C7 ?_
  exact U3 rfl (by decide) (E4 (C3 rfl (by rfl)) (E4 (C3 rfl (by rfl)) J0))
 ·intro h16
  have hgd : goodState s = true ∧ goodRec ⟨1, 1, 1, 0, rs, ws, false⟩ = true := by simpa using h16
  obtain ⟨q1, q2⟩ := hgd
  have he : fitsR s rs ws = (fits s rs ws, true) := by (unfold fitsR; rw [q1, q2]; rfl)
  rw [he]
  have hwa : adj wLess ws = true := s9 (h := ⟨1, 1, 0, rs, ws⟩) q2
  refine D2 (A3 (A2 ?_))
  refine A1 rfl rfl rfl (F8 0 rfl (A0 rfl) rfl D8 C5 rfl) ?_
  refine A5 rfl rfl rfl rfl rfl ?_
  refine A5 rfl rfl rfl rfl rfl ?_
  refine A1 rfl rfl rfl (E5 rfl Tryz.call125 rfl (Ae3 _ _ _ (by assumption) (by first | assumption | omega) (by first | assumption | omega) (by assumption)) (A7 (A0 rfl) (A7 (A0 rfl) (A7 (A0 rfl) C9)))) ?_
  refine B5 rfl rfl rfl rfl rfl ?_
  refine A1 rfl rfl rfl (C0 rfl F3) ?_
  refine A4 ?_
  refine C7 ?_
  exact U3 rfl (by decide) (E4 (C3 rfl (by rfl)) (E4 (C3 rfl (by rfl)) J0))
theorem An9 (s : TState) (r : TRec) (hg : goodState s = true) (hr : goodRec r = true) (hs : s.size ≤ 400000) : GSpec Tryz.prog 101 [AV.agg s.cs, AV.agg r.cs] [] (fun _ : Value × Value => True) (fun x => TState.ow (appR s r).1 x) (fun x => AV.tup [AV.agg (TState.ocs (appR s r).1 x), AV.bool (appR s r).2]) := by
 have g := U8.1 hg
 have hgc := g.cells
 have hsr := g.hsort
 have htr := g.tsort
 obtain ⟨hs1, hs2, hs3, hs4, hs5⟩ := R4 hs
 have hrs := Af7 hr
 have hrs2 : r.size = sizeL (fun x : Str => x.length) r.Reads + sizeL TWrite.size r.Writes := rfl
 have hple := AZ7 s.Held r.Txn
 refine H7 Tryz.func101 rfl Tryz.ntmps101 rfl ?_
 refine A3 (A2 ?_)
 refine L9 rfl rfl rfl rfl (A0 rfl) ?_
 intro b2
 refine L9 rfl rfl rfl rfl (A0 rfl) ?_
 intro b3
 refine G5 rfl rfl rfl rfl Tryz.zeroValue30 rfl ?_
 intro b4
 refine A1 rfl rfl rfl (C0 rfl F3) ?_
 refine A4 (A3 (A3 (A2 ?_)))
 refine A1 rfl rfl rfl (B4 0 rfl B8 rfl C1 (A0 rfl) rfl) ?_
 refine A1 rfl rfl rfl (B3 1 rfl (A0 rfl) rfl D1 rfl) ?_
 refine A1 rfl rfl rfl (M0 rfl (A0 rfl) C2) ?_
 refine A4 ?_
 refine C8 (A0 rfl) ?_ ?_
 ·intro h14
  have k14 := K3 h14; try simp only [A6] at k14
  have hk : r.Kind = 4 := by simpa using h14
  refine A3 (A3 (A2 ?_))
  refine A1 rfl rfl rfl (B4 2 rfl B8 rfl C1 (A0 rfl) rfl) ?_
  refine A1 rfl rfl rfl (B3 1 rfl (A0 rfl) rfl D1 rfl) ?_
  refine A1 rfl rfl rfl (B4 0 rfl C4 rfl C1 (A0 rfl) rfl) ?_
  refine A1 rfl rfl rfl (B3 2 rfl (A0 rfl) rfl D1 rfl) ?_
  refine A1 rfl rfl rfl (T6 rfl (A0 rfl) (A0 rfl)) ?_
  refine A4 ?_
  refine C8 (A0 rfl) ?_ ?_
  ·intro h19
   have k19 := of_decide_eq_true h19; try simp only [A6] at k19
   have he : appR s r = (zState, false) := by (unfold appR applyS; rw [if_pos hk, if_neg (by simp; omega)])
   rw [he]
   refine A3 (A2 ?_)
   refine A1 rfl rfl rfl (M7 (places := #[(0, 1), (1, 1), (2, 1), (3, 1)]) rfl C4 Tryz.zeroValue30 (fun w => by kernel_rfl) rfl H6 rfl) ?_
   refine D9 0 rfl rfl rfl (A0 rfl) (A0 rfl) (E9 _) rfl C5 rfl ?_
   refine A1 rfl rfl rfl (C0 rfl F3) ?_
   refine A4 ?_
   refine C7 ?_
   refine d4 0 1 2 rfl rfl R7 ?_
   refine T7 45 5 ?_
   refine T7 39 3 ?_
   exact J6 [1, 0] ((Value.slice none 0 0), (Value.slice none 0 0)) (trivial) rfl (by rfl) (S8 rfl (by decide) (E4 (J9 (ys := _) 2 rfl rfl D8 C5 rfl) (E4 (C3 rfl (by rfl)) J0)))
  ·intro h19
   have k19 := of_decide_eq_false h19; try simp only [A6] at k19
   have he : appR s r = (⟨r.Time, s.Cells, s.Held, s.Told⟩, true) := by (unfold appR applyS; rw [if_pos hk, if_pos (by simp; omega)])
   rw [he]
   refine D2 (A3 (A2 ?_))
   refine A1 rfl rfl rfl (F8 2 rfl (A0 rfl) rfl D8 C5 rfl) ?_
   refine I0 [] rfl rfl rfl rfl Tryz.call198 rfl (z6 s (by omega)) (A7 (A0 rfl) C9) rfl ?_
   intro x22 ok22
   refine G5 rfl rfl rfl rfl Tryz.zeroValue30 rfl ?_
   intro b6
   refine D9 0 rfl rfl rfl (A0 rfl) (A0 rfl) (E9 _) rfl C5 rfl ?_
   refine A4 (A3 ?_)
   refine J3 (by first | (simp only [TState.ow, TState.ocs, pick, O2, N7, N8, N5, M9, List.nil_append, O3, O4, List.append_nil, N6, List.take_zero, N9, List.drop_zero]; exact rfl) | exact rfl) ?_
   refine A2 ?_
   refine A1 rfl rfl rfl (B4 2 rfl B8 rfl C1 (A0 rfl) rfl) ?_
   refine A1 rfl rfl rfl (B3 4 rfl (A0 rfl) rfl D1 rfl) ?_
   refine A1 rfl rfl rfl (B4 0 rfl C4 rfl C1 (A0 rfl) rfl) ?_
   refine J4 0 rfl rfl rfl (A0 rfl) (A0 rfl) (K6 _ _) rfl C1 rfl ?_
   refine A4 (A3 ?_)
   refine J3 (by first | (simp only [TState.ow, TState.ocs, pick, O2, N7, N8, N5, M9, List.nil_append, O3, O4, List.append_nil, N6, List.take_zero, N9, List.drop_zero]; exact rfl) | exact rfl) ?_
   refine A2 ?_
   refine A1 rfl rfl rfl (F8 0 rfl (A0 rfl) rfl D8 C5 rfl) ?_
   refine D9 3 rfl rfl rfl (A0 rfl) (A0 rfl) (E9 _) rfl C5 rfl ?_
   refine A1 rfl rfl rfl (C0 rfl F3) ?_
   refine A4 ?_
   refine C7 ?_
   exact J6 [1, 1] (x22.1, x22.2) (trivial) rfl (by rfl) (S8 rfl (by decide) (E4 (J9 (ys := _) 3 rfl rfl D8 C5 rfl) (E4 (C3 rfl (by rfl)) J0)))
 ·intro h14
  have k14 := K2 h14; try simp only [A6] at k14
  have hk4 : r.Kind ≠ 4 := by simpa using h14
  refine D2 (A3 (A3 (A2 ?_)))
  refine A1 rfl rfl rfl (F8 2 rfl (A0 rfl) rfl D8 C5 rfl) ?_
  refine A1 rfl rfl rfl (B4 1 rfl B8 rfl C1 (A0 rfl) rfl) ?_
  refine A1 rfl rfl rfl (B3 1 rfl (A0 rfl) rfl D1 rfl) ?_
  refine A1 rfl rfl rfl (E5 rfl Tryz.call97 rfl (AJ8 s r.Txn (by omega)) (A7 (A0 rfl) (A7 (A0 rfl) C9))) ?_
  refine A5 rfl rfl rfl rfl rfl ?_
  refine A1 rfl rfl rfl (F0 rfl (A0 rfl) rfl) ?_
  refine A1 rfl rfl rfl (F0 rfl (A0 rfl) rfl) ?_
  refine B5 rfl rfl rfl rfl rfl ?_
  refine B5 rfl rfl rfl rfl rfl ?_
  refine A4 (A3 (A2 ?_))
  refine A5 rfl rfl rfl rfl rfl ?_
  refine A4 ?_
  refine C8 (A0 rfl) ?_ ?_
  ·intro h34
   have hT : hasT s.Told r.Txn = true := by (rw [← AG0 htr]; exact h34)
   have he : appR s r = (zState, false) := by (unfold appR applyS; rw [if_neg hk4, if_pos hT]; rfl)
   rw [he]
   refine A3 (A2 ?_)
   refine A1 rfl rfl rfl (M7 (places := #[(0, 1), (1, 1), (2, 1), (3, 1)]) rfl C4 Tryz.zeroValue30 (fun w => by kernel_rfl) rfl H6 rfl) ?_
   refine D9 0 rfl rfl rfl (A0 rfl) (A0 rfl) (E9 _) rfl C5 rfl ?_
   refine A1 rfl rfl rfl (C0 rfl F3) ?_
   refine A4 ?_
   refine C7 ?_
   refine d4 0 1 2 rfl rfl R7 ?_
   refine T7 45 5 ?_
   refine T7 39 3 ?_
   exact J6 [1, 0] ((Value.slice none 0 0), (Value.slice none 0 0)) (trivial) rfl (by rfl) (S8 rfl (by decide) (E4 (J9 (ys := _) 2 rfl rfl D8 C5 rfl) (E4 (C3 rfl (by rfl)) J0)))
  ·intro h34
   have hT : hasT s.Told r.Txn = false := by (rw [← AG0 htr]; exact h34)
   refine D2 (A3 (A3 (A2 ?_)))
   refine A1 rfl rfl rfl (B4 0 rfl B8 rfl C1 (A0 rfl) rfl) ?_
   refine A1 rfl rfl rfl (B3 1 rfl (A0 rfl) rfl D1 rfl) ?_
   refine A1 rfl rfl rfl (AG4 rfl (A0 rfl) C2) ?_
   refine A4 ?_
   refine C8 (A0 rfl) ?_ ?_
   ·intro h38
    have k38 := Aa5 h38; try simp only [A6] at k38
    have hk1 : r.Kind ≠ 1 := by simpa using h38
    rw [appR_dec hk4 hT hk1]
    refine A3 (A2 ?_)
    refine A1 rfl rfl rfl (F8 2 rfl (A0 rfl) rfl D8 C5 rfl) ?_
    refine A1 rfl rfl rfl (F8 1 rfl (A0 rfl) rfl N3 H5 rfl) ?_
    refine I0 [] rfl rfl rfl rfl Tryz.call199 rfl (An7 s r hgc hsr htr hT (by omega)) (A7 (A0 rfl) (A7 (A0 rfl) C9)) rfl ?_
    intro x41 ok41
    refine A1 rfl rfl rfl (F0 rfl (A0 rfl) rfl) ?_
    refine A1 rfl rfl rfl (F0 rfl (A0 rfl) rfl) ?_
    refine D9 2 rfl rfl rfl (A0 rfl) (A0 rfl) (E9 _) rfl C5 rfl ?_
    refine B5 rfl rfl rfl rfl rfl ?_
    refine A4 ?_
    refine C7 ?_
    exact J6 [0, 0] (x41.1, x41.2) (trivial) rfl (by rfl) (S8 rfl (by decide) (E4 (J9 (ys := _) 2 rfl rfl D8 C5 rfl) (E4 (C3 rfl (by rfl)) J0)))
   ·intro h38
    have k38 := AC8 h38; try simp only [A6] at k38
    have hk1 : r.Kind = 1 := by simpa using h38
    have hwa : adj wLess r.Writes = true := by (rw [← Aj3 hr hk1] at hr; exact s9 hr)
    refine D2 (A3 (A2 ?_))
    refine A1 rfl rfl rfl (F8 2 rfl (A0 rfl) rfl D8 C5 rfl) ?_
    refine A1 rfl rfl rfl (B4 1 rfl B8 rfl C1 (A0 rfl) rfl) ?_
    refine A1 rfl rfl rfl (B3 1 rfl (A0 rfl) rfl D1 rfl) ?_
    refine A1 rfl rfl rfl (E5 rfl Tryz.call96 rfl (o1 s r.Txn (by omega)) (A7 (A0 rfl) (A7 (A0 rfl) C9))) ?_
    refine A5 rfl rfl rfl rfl rfl ?_
    refine A1 rfl rfl rfl (F0 rfl (A0 rfl) rfl) ?_
    refine A1 rfl rfl rfl (F0 rfl (A0 rfl) rfl) ?_
    refine B5 rfl rfl rfl rfl rfl ?_
    refine B5 rfl rfl rfl rfl rfl ?_
    refine A4 (A3 (A3 (A2 ?_)))
    refine A5 rfl rfl rfl rfl rfl ?_
    refine A5 rfl rfl rfl rfl rfl ?_
    refine B1 rfl rfl (D4 rfl rfl rfl) (fun hc => B4 2 rfl B8 rfl C1 (A0 rfl) rfl) ?_
    refine B1 rfl rfl (D4 rfl rfl rfl) (fun hc => B3 1 rfl (B0 rfl hc) rfl D1 rfl) ?_
    refine B1 rfl rfl (D4 rfl rfl rfl) (fun hc => B4 0 rfl C4 rfl C1 (A0 rfl) rfl) ?_
    refine B1 rfl rfl (D4 rfl rfl rfl) (fun hc => B3 2 rfl (B0 rfl hc) rfl D1 rfl) ?_
    refine B1 rfl rfl (D4 rfl rfl rfl) (fun hc => T6 rfl (B0 rfl hc) (B0 rfl hc)) ?_
    refine A1 rfl rfl rfl (P5 rfl (A0 rfl) (G0 rfl)) ?_
    refine A5 rfl rfl rfl rfl rfl ?_
    refine B1 rfl rfl (D4 rfl rfl rfl) (fun hc => F8 2 rfl (A0 rfl) rfl D8 C5 rfl) ?_
    refine B1 rfl rfl (D4 rfl rfl rfl) (fun hc => B4 4 rfl B8 rfl M3 (A0 rfl) rfl) ?_
    refine B1 rfl rfl (D4 rfl rfl rfl) (fun hc => B3 1 rfl (B0 rfl hc) rfl P3 rfl) ?_
    refine B1 rfl rfl (D4 rfl rfl rfl) (fun hc => B4 5 rfl B8 rfl K4 (A0 rfl) rfl) ?_
    refine B1 rfl rfl (D4 rfl rfl rfl) (fun hc => B3 1 rfl (B0 rfl hc) rfl L7 rfl) ?_
    refine B1 rfl rfl (D4 rfl rfl rfl) (fun hc => E5 rfl Tryz.call125 rfl (Ae3 s r.Reads r.Writes hg (by omega) (by omega) hwa) (A7 (B0 rfl hc) (A7 (B0 rfl hc) (A7 (B0 rfl hc) C9)))) ?_
    refine B1 rfl rfl (D4 rfl rfl rfl) (fun hc => J7 rfl (B0 rfl hc)) ?_
    refine A1 rfl rfl rfl (P5 rfl (A0 rfl) (G0 rfl)) ?_
    refine A4 ?_
    refine C8 (A0 rfl) ?_ ?_
    ·intro h67
     have he : appR s r = (zState, false) := by (unfold appR applyS; rw [if_neg hk4, if_neg (show ¬ hasT s.Told r.Txn = true by rw [hT]; decide), if_pos hk1, if_neg (by rw [← n5 hsr]; intro h; simp only [Bool.and_eq_true, Bool.not_eq_true', decide_eq_true_eq] at h; rw [h.1.1, h.2, decide_eq_false (by omega)] at h67; simp at h67)])
     rw [he]
     refine A3 (A2 ?_)
     refine A1 rfl rfl rfl (M7 (places := #[(0, 1), (1, 1), (2, 1), (3, 1)]) rfl C4 Tryz.zeroValue30 (fun w => by kernel_rfl) rfl H6 rfl) ?_
     refine D9 0 rfl rfl rfl (A0 rfl) (A0 rfl) (E9 _) rfl C5 rfl ?_
     refine A1 rfl rfl rfl (C0 rfl F3) ?_
     refine A4 ?_
     refine C7 ?_
     refine d4 0 1 2 rfl rfl R7 ?_
     refine T7 45 5 ?_
     refine T7 39 3 ?_
     exact J6 [1, 0] ((Value.slice none 0 0), (Value.slice none 0 0)) (trivial) rfl (by rfl) (S8 rfl (by decide) (E4 (J9 (ys := _) 2 rfl rfl D8 C5 rfl) (E4 (C3 rfl (by rfl)) J0)))
    ·intro h67
     simp only [Bool.or_eq_false_iff, Bool.not_eq_false', decide_eq_false_iff_not] at h67
     obtain ⟨⟨q1, q2⟩, q3⟩ := h67
     have he : appR s r = (⟨r.Time, s.Cells, insH (hOf r) s.Held, s.Told⟩, true) := by (unfold appR applyS; rw [if_neg hk4, if_neg (show ¬ hasT s.Told r.Txn = true by rw [hT]; decide), if_pos hk1, if_pos (by rw [← n5 hsr, q1, q3, decide_eq_true (show s.Floor < r.Time by omega)]; rfl)])
     have hins : insH (hOf r) s.Held = s.Held.take (hPos s.Held r.Txn) ++ hOf r :: s.Held.drop (hPos s.Held r.Txn) := insH_pos (h := hOf r) hsr q1
     rw [he, hins]
     refine D2 (A3 (A2 ?_))
     refine A1 rfl rfl rfl (F8 2 rfl (A0 rfl) rfl D8 C5 rfl) ?_
     refine I0 [] rfl rfl rfl rfl Tryz.call198 rfl (z6 s (by omega)) (A7 (A0 rfl) C9) rfl ?_
     intro x70 ok70
     refine G5 rfl rfl rfl rfl Tryz.zeroValue30 rfl ?_
     intro b11
     refine D9 0 rfl rfl rfl (A0 rfl) (A0 rfl) (E9 _) rfl C5 rfl ?_
     refine A4 (A3 ?_)
     refine J3 (by first | (simp only [TState.ow, TState.ocs, pick, O2, N7, N8, N5, M9, List.nil_append, O3, O4, List.append_nil, N6, List.take_zero, N9, List.drop_zero]; exact rfl) | exact rfl) ?_
     refine AWP.le (J2 [0, 3] rfl) ?_
     refine S0 _ [(0, false), (1, false), (2, false), (3, false), (4, false), (5, true), (6, true)] (by kernel_rfl) (by kernel_rfl) rfl (X7 2) ?_
     refine F9 rfl rfl rfl (fun ext => B4 2 rfl C4 rfl G4 (A0 rfl) rfl) ?_
     refine F9 rfl rfl rfl (fun ext => B3 0 rfl (A0 rfl) rfl J8 rfl) ?_
     refine F9 rfl rfl rfl (fun ext => C6 rfl (A0 rfl)) ?_
     refine F9 rfl rfl rfl (fun ext => F8 1 rfl (A0 rfl) rfl N3 H5 rfl) ?_
     refine F9 rfl rfl rfl (fun ext => E5 rfl Tryz.call195 rfl (AR2 r (by omega)) (A7 (A0 rfl) C9)) ?_
     refine T5 rfl rfl rfl (AA3 rfl D0 D3 Tryz.zeroValue45 rfl rfl rfl rfl (D7 (A0 rfl) (E9 _) H6) rfl rfl) (fun a _ => (by first | exact G1 rfl | exact G1 (List.append_assoc _ _ _) | exact J1)) ?_
     intro v76 _
     refine T5 rfl rfl rfl (d3 [2, 5] rfl Tryz.call200 rfl (AZ0 _ _ s.Held (hOf r) (hPos s.Held r.Txn) hple (by omega)) (A7 (A0 rfl) (A7 (A0 rfl) (A7 (A0 rfl) C9))) rfl) (fun a _ => (by first | exact G1 rfl | exact G1 (List.append_assoc _ _ _) | exact J1)) ?_
     intro x77 ok77
     refine j4 ?_
     refine A1 rfl rfl rfl (B4 2 rfl C4 rfl G4 (A0 rfl) rfl) ?_
     refine Q8 5 rfl fun one_x77 => ?_
     refine J4 0 rfl rfl rfl (A0 rfl) (A0 rfl) (R5 one_x77) rfl G4 rfl ?_
     refine A4 (A3 ?_)
     refine J3 (by first | (simp only [TState.ow, TState.ocs, pick, O2, N7, N8, N5, M9, List.nil_append, O3, O4, List.append_nil, N6, List.take_zero, N9, List.drop_zero]; exact rfl) | exact rfl) ?_
     refine A2 ?_
     refine A1 rfl rfl rfl (B4 2 rfl B8 rfl C1 (A0 rfl) rfl) ?_
     refine A1 rfl rfl rfl (B3 1 rfl (A0 rfl) rfl D1 rfl) ?_
     refine A1 rfl rfl rfl (B4 0 rfl C4 rfl C1 (A0 rfl) rfl) ?_
     refine J4 0 rfl rfl rfl (A0 rfl) (A0 rfl) (K6 _ _) rfl C1 rfl ?_
     refine A4 (A3 ?_)
     refine J3 (by first | (simp only [TState.ow, TState.ocs, pick, O2, N7, N8, N5, M9, List.nil_append, O3, O4, List.append_nil, N6, List.take_zero, N9, List.drop_zero]; exact rfl) | exact rfl) ?_
     refine A2 ?_
     refine A1 rfl rfl rfl (F8 0 rfl (A0 rfl) rfl D8 C5 rfl) ?_
     refine D9 3 rfl rfl rfl (A0 rfl) (A0 rfl) (E9 _) rfl C5 rfl ?_
     refine A1 rfl rfl rfl (C0 rfl F3) ?_
     refine A4 ?_
     refine C7 ?_
     exact J6 [5, 2] (x77, x70.2) (trivial) rfl (by rfl) (S8 rfl (by decide) (E4 (J9 (ys := _) 3 rfl rfl D8 C5 rfl) (E4 (C3 rfl (by rfl)) J0)))
end Go.Proofs.YtnlhbdkcgaeimaaGreat

set_option linter.unusedVariables false
set_option linter.unusedSimpArgs false
set_option maxRecDepth 100000
set_option maxHeartbeats 1000000
namespace Go.M
open Go.AV
end Go.M
namespace Go.Proofs.YtnlhbdkcgaeimaaGreat
open Go Go.AV Go.M
attribute [local irreducible] OpW OpA OpS AWP FSpec ESpec GSpec OpE RetOk RetOkG RvDen Le Ev GuardIs SrcIs Int.tmod Int.tdiv IntKind.wrap
theorem Al4 (s : TState) (r : TRec) (hg : goodState s = true) (hr : goodRec r = true) (hs : s.size ≤ 400000) : FSpec Tryz.prog 101 [AV.agg s.cs, AV.agg r.cs] (AV.tup [AV.agg (appR s r).1.cs, AV.bool (appR s r).2]) :=
  V0 (An9 s r hg hr hs) fun x _ => AU9 (G3 (Y0 (TState.lc _ x)) (G3 J5 S1))
theorem AK0 (s : TState) (r : TRec) (hs : s.size ≤ 400000) (hrs : r.size ≤ 1048576) : FSpec Tryz.prog 19 [AV.agg s.cs, AV.agg r.cs] (AV.tup [AV.agg (applyRecR s r).1.cs, AV.bool (applyRecR s r).2]) := by
 refine E7 Tryz.func19 rfl Tryz.ntmps19 rfl ?_
 refine A3 (A2 ?_)
 refine L9 rfl rfl rfl rfl (A0 rfl) ?_
 intro b2
 refine L9 rfl rfl rfl rfl (A0 rfl) ?_
 intro b3
 refine G5 rfl rfl rfl rfl Tryz.zeroValue30 rfl ?_
 intro b4
 refine A1 rfl rfl rfl (C0 rfl F3) ?_
 refine A4 (A3 (A3 (A2 ?_)))
 refine A1 rfl rfl rfl (F8 2 rfl (A0 rfl) rfl D8 C5 rfl) ?_
 refine A1 rfl rfl rfl (E5 rfl Tryz.call15 rfl (c8 _ (by first | assumption | omega)) (A7 (A0 rfl) C9)) ?_
 refine A1 rfl rfl rfl (J7 rfl (A0 rfl)) ?_
 refine A5 rfl rfl rfl rfl rfl ?_
 refine B1 rfl rfl (D4 rfl rfl rfl) (fun hc => F8 1 rfl (A0 rfl) rfl N3 H5 rfl) ?_
 refine B1 rfl rfl (D4 rfl rfl rfl) (fun hc => E5 rfl Tryz.call83 rfl (AC2 _ (by first | assumption | omega)) (A7 (B0 rfl hc) C9)) ?_
 refine B1 rfl rfl (D4 rfl rfl rfl) (fun hc => J7 rfl (B0 rfl hc)) ?_
 refine A1 rfl rfl rfl (P5 rfl (A0 rfl) (G0 rfl)) ?_
 refine A4 ?_
 refine C8 (A0 rfl) ?_ ?_
 ·intro h13
  have he : applyRecR s r = (zState, false) := by (unfold applyRecR; rw [if_neg (by intro h; rw [h.1, h.2] at h13; cases h13)])
  rw [he]
  refine A3 (A2 ?_)
  refine A1 rfl rfl rfl (M7 (places := #[(0, 1), (1, 1), (2, 1), (3, 1)]) rfl C4 Tryz.zeroValue30 (fun w => by kernel_rfl) rfl H6 rfl) ?_
  refine D9 0 rfl rfl rfl (A0 rfl) (A0 rfl) (E9 _) rfl C5 rfl ?_
  refine A1 rfl rfl rfl (C0 rfl F3) ?_
  refine A4 ?_
  refine C7 ?_
  refine Z0 0 1 2 rfl rfl ?_
  refine Z0 0 2 5 rfl rfl ?_
  refine Z0 0 3 3 rfl rfl ?_
  exact U3 rfl (by decide) (E4 (J9 (ys := _) 0 rfl rfl D8 C5 rfl) (E4 (C3 rfl (by rfl)) J0))
 ·intro h13
  have hgd : goodState s = true ∧ goodRec r = true := by simpa using h13
  have he : applyRecR s r = appR s r := if_pos hgd
  rw [he]
  obtain ⟨hg1, hg2⟩ := hgd
  refine D2 (A3 (A2 ?_))
  refine A1 rfl rfl rfl (F8 2 rfl (A0 rfl) rfl D8 C5 rfl) ?_
  refine A1 rfl rfl rfl (F8 1 rfl (A0 rfl) rfl N3 H5 rfl) ?_
  refine A1 rfl rfl rfl (E5 rfl Tryz.call101 rfl (Al4 _ _ (by assumption) (by assumption) (by first | assumption | omega)) (A7 (A0 rfl) (A7 (A0 rfl) C9))) ?_
  refine A1 rfl rfl rfl (F0 rfl (A0 rfl) rfl) ?_
  refine A1 rfl rfl rfl (F0 rfl (A0 rfl) rfl) ?_
  refine D9 0 rfl rfl rfl (A0 rfl) (A0 rfl) (E9 _) rfl C5 rfl ?_
  refine B5 rfl rfl rfl rfl rfl ?_
  refine A4 ?_
  refine C7 ?_
  exact U3 rfl (by decide) (E4 (J9 (ys := _) 0 rfl rfl D8 C5 rfl) (E4 (C3 rfl (by rfl)) J0))
theorem AZ9 (s : TState) (n : Int) (hs : s.size ≤ 1048576) : FSpec Tryz.prog 16 [AV.agg s.cs, AV.int n] (AV.tup [AV.agg (outcomeR s n).1.cs, AV.bool (outcomeR s n).2]) := by
 obtain ⟨hs1, hs2, hs3, hs4, hs5⟩ := R4 hs
 refine E7 Tryz.func16 rfl Tryz.ntmps16 rfl ?_
 refine A3 (A2 ?_)
 refine L9 rfl rfl rfl rfl (A0 rfl) ?_
 intro b2
 refine G5 rfl rfl rfl rfl Tryz.zeroValue39 rfl ?_
 intro b4
 refine A1 rfl rfl rfl (C0 rfl F3) ?_
 refine A4 (A3 (A3 (A2 ?_)))
 refine A1 rfl rfl rfl (F8 1 rfl (A0 rfl) rfl D8 C5 rfl) ?_
 refine A1 rfl rfl rfl (E5 rfl Tryz.call15 rfl (c8 _ (by first | assumption | omega)) (A7 (A0 rfl) C9)) ?_
 refine A1 rfl rfl rfl (J7 rfl (A0 rfl)) ?_
 refine A4 ?_
 refine C8 (A0 rfl) ?_ ?_
 ·intro h10
  have he : outcomeR s n = (zTold, false) := if_neg (by simpa using h10)
  rw [he]
  refine A3 (A2 ?_)
  refine A1 rfl rfl rfl (M7 (places := #[(0, 1), (1, 1), (2, 1)]) rfl I9 Tryz.zeroValue39 (fun w => by kernel_rfl) rfl H6 rfl) ?_
  refine D9 0 rfl rfl rfl (A0 rfl) (A0 rfl) (E9 _) rfl G7 rfl ?_
  refine A1 rfl rfl rfl (C0 rfl F3) ?_
  refine A4 ?_
  refine C7 ?_
  exact U3 rfl (by decide) (E4 (J9 (ys := _) 0 rfl rfl T4 G7 rfl) (E4 (C3 rfl (by rfl)) J0))
 ·intro h10
  have hg : goodState s = true := by simpa using h10
  have g := U8.1 hg
  refine D2 (A3 (A2 ?_))
  refine A1 rfl rfl rfl (F8 1 rfl (A0 rfl) rfl D8 C5 rfl) ?_
  refine A5 rfl rfl rfl rfl rfl ?_
  refine A1 rfl rfl rfl (E5 rfl Tryz.call97 rfl (AJ8 s n hs3) (A7 (A0 rfl) (A7 (A0 rfl) C9))) ?_
  refine A5 rfl rfl rfl rfl rfl ?_
  refine A1 rfl rfl rfl (F0 rfl (A0 rfl) rfl) ?_
  refine A1 rfl rfl rfl (F0 rfl (A0 rfl) rfl) ?_
  refine B5 rfl rfl rfl rfl rfl ?_
  refine B5 rfl rfl rfl rfl rfl ?_
  refine A4 (A3 (A3 (A2 ?_)))
  refine A5 rfl rfl rfl rfl rfl ?_
  refine A1 rfl rfl rfl (J7 rfl (A0 rfl)) ?_
  refine A4 ?_
  refine C8 (A0 rfl) ?_ ?_
  ·intro h19
   have he : outcomeR s n = (zTold, false) := by (unfold outcomeR; rw [if_pos hg, AW9.2 (by rw [← AG0 g.tsort]; simpa using h19)])
   rw [he]
   refine A3 (A2 ?_)
   refine A1 rfl rfl rfl (M7 (places := #[(0, 1), (1, 1), (2, 1)]) rfl I9 Tryz.zeroValue39 (fun w => by kernel_rfl) rfl H6 rfl) ?_
   refine D9 0 rfl rfl rfl (A0 rfl) (A0 rfl) (E9 _) rfl G7 rfl ?_
   refine A1 rfl rfl rfl (C0 rfl F3) ?_
   refine A4 ?_
   refine C7 ?_
   exact U3 rfl (by decide) (E4 (J9 (ys := _) 0 rfl rfl T4 G7 rfl) (E4 (C3 rfl (by rfl)) J0))
  ·intro h19
   obtain ⟨t, ht, htn⟩ := Ax6 (by simpa using h19)
   have he : outcomeR s n = (t, true) := by (have h9 := Ax8 g.tsort (G2 ht); rw [htn] at h9; unfold outcomeR; rw [if_pos hg, h9])
   rw [he]
   have htl := (List.getElem?_eq_some_iff.1 ht).1
   refine D2 (A3 (A2 ?_))
   refine A1 rfl rfl rfl (B4 3 rfl C4 rfl K5 (A0 rfl) rfl) ?_
   refine A1 rfl rfl rfl (B3 1 rfl (A0 rfl) rfl Q0 rfl) ?_
   refine A5 rfl rfl rfl rfl rfl ?_
   refine A1 rfl rfl rfl (K0 rfl E6 G7 (A0 rfl) (A0 rfl) ht (by first | omega | (simp only [A6, A8, B2, B6, A9, szR] at *; omega))) ?_
   refine A1 rfl rfl rfl (L8 rfl (A0 rfl) T4 G7) ?_
   refine D9 0 rfl rfl rfl (A0 rfl) (A0 rfl) (E9 _) rfl G7 rfl ?_
   refine A1 rfl rfl rfl (C0 rfl F3) ?_
   refine A4 ?_
   refine C7 ?_
   exact U3 rfl (by decide) (E4 (J9 (ys := _) 0 rfl rfl T4 G7 rfl) (E4 (C3 rfl (by rfl)) J0))
theorem AN3 (s : TState) (n : Int) (hs : s.size ≤ 1048576) : FSpec Tryz.prog 17 [AV.agg s.cs, AV.int n] (AV.tup [AV.agg (heldR s n).1.cs, AV.bool (heldR s n).2]) := by
 obtain ⟨hs1, hs2, hs3, hs4, hs5⟩ := R4 hs
 refine E7 Tryz.func17 rfl Tryz.ntmps17 rfl ?_
 refine A3 (A2 ?_)
 refine L9 rfl rfl rfl rfl (A0 rfl) ?_
 intro b2
 refine G5 rfl rfl rfl rfl Tryz.zeroValue45 rfl ?_
 intro b4
 refine A1 rfl rfl rfl (C0 rfl F3) ?_
 refine A4 (A3 (A3 (A2 ?_)))
 refine A1 rfl rfl rfl (F8 1 rfl (A0 rfl) rfl D8 C5 rfl) ?_
 refine A1 rfl rfl rfl (E5 rfl Tryz.call15 rfl (c8 _ (by first | assumption | omega)) (A7 (A0 rfl) C9)) ?_
 refine A1 rfl rfl rfl (J7 rfl (A0 rfl)) ?_
 refine A4 ?_
 refine C8 (A0 rfl) ?_ ?_
 ·intro h10
  have he : heldR s n = (zHeld, false) := if_neg (by simpa using h10)
  rw [he]
  refine A3 (A2 ?_)
  refine A1 rfl rfl rfl (M7 (places := #[(0, 1), (1, 1), (2, 1), (3, 1), (4, 1)]) rfl F1 Tryz.zeroValue45 (fun w => by kernel_rfl) rfl H6 rfl) ?_
  refine D9 0 rfl rfl rfl (A0 rfl) (A0 rfl) (E9 _) rfl D3 rfl ?_
  refine A1 rfl rfl rfl (C0 rfl F3) ?_
  refine A4 ?_
  refine C7 ?_
  refine Z0 0 3 1 rfl rfl ?_
  refine Z0 0 4 3 rfl rfl ?_
  exact U3 rfl (by decide) (E4 (J9 (ys := _) 0 rfl rfl H8 D3 rfl) (E4 (C3 rfl (by rfl)) J0))
 ·intro h10
  have hg : goodState s = true := by simpa using h10
  have g := U8.1 hg
  refine D2 (A3 (A2 ?_))
  refine A1 rfl rfl rfl (F8 1 rfl (A0 rfl) rfl D8 C5 rfl) ?_
  refine A5 rfl rfl rfl rfl rfl ?_
  refine A1 rfl rfl rfl (E5 rfl Tryz.call96 rfl (o1 s n hs5) (A7 (A0 rfl) (A7 (A0 rfl) C9))) ?_
  refine A5 rfl rfl rfl rfl rfl ?_
  refine A1 rfl rfl rfl (F0 rfl (A0 rfl) rfl) ?_
  refine A1 rfl rfl rfl (F0 rfl (A0 rfl) rfl) ?_
  refine B5 rfl rfl rfl rfl rfl ?_
  refine B5 rfl rfl rfl rfl rfl ?_
  refine A4 (A3 (A3 (A2 ?_)))
  refine A5 rfl rfl rfl rfl rfl ?_
  refine A1 rfl rfl rfl (J7 rfl (A0 rfl)) ?_
  refine A4 ?_
  refine C8 (A0 rfl) ?_ ?_
  ·intro h19
   have he : heldR s n = (zHeld, false) := by (unfold heldR; rw [if_pos hg, r3.2 (by rw [← n5 g.hsort]; simpa using h19)])
   rw [he]
   refine A3 (A2 ?_)
   refine A1 rfl rfl rfl (M7 (places := #[(0, 1), (1, 1), (2, 1), (3, 1), (4, 1)]) rfl F1 Tryz.zeroValue45 (fun w => by kernel_rfl) rfl H6 rfl) ?_
   refine D9 0 rfl rfl rfl (A0 rfl) (A0 rfl) (E9 _) rfl D3 rfl ?_
   refine A1 rfl rfl rfl (C0 rfl F3) ?_
   refine A4 ?_
   refine C7 ?_
   refine Z0 0 3 1 rfl rfl ?_
   refine Z0 0 4 3 rfl rfl ?_
   exact U3 rfl (by decide) (E4 (J9 (ys := _) 0 rfl rfl H8 D3 rfl) (E4 (C3 rfl (by rfl)) J0))
  ·intro h19
   obtain ⟨t, ht, htn⟩ := Ad9 (by simpa using h19)
   have he : heldR s n = (t, true) := by (have h9 := Ae0 g.hsort ht; rw [htn] at h9; unfold heldR; rw [if_pos hg, h9])
   rw [he]
   have htl := (List.getElem?_eq_some_iff.1 ht).1
   obtain ⟨g1, g2, g3, g4, g5⟩ := U7 hs2 ht
   refine D2 (A3 (A2 ?_))
   refine A1 rfl rfl rfl (B4 2 rfl C4 rfl G4 (A0 rfl) rfl) ?_
   refine A1 rfl rfl rfl (B3 1 rfl (A0 rfl) rfl J8 rfl) ?_
   refine A5 rfl rfl rfl rfl rfl ?_
   refine A1 rfl rfl rfl (K0 rfl D0 D3 (A0 rfl) (A0 rfl) ht (by first | omega | (simp only [A6, A8, B2, B6, A9, szR] at *; omega))) ?_
   refine A1 rfl rfl rfl (L8 rfl (A0 rfl) H8 D3) ?_
   refine A1 rfl rfl rfl (E5 rfl Tryz.call98 rfl (y9 t g1) (A7 (A0 rfl) C9)) ?_
   refine D9 0 rfl rfl rfl (A0 rfl) (A0 rfl) (E9 _) rfl D3 rfl ?_
   refine A1 rfl rfl rfl (C0 rfl F3) ?_
   refine A4 ?_
   refine C7 ?_
   exact U3 rfl (by decide) (E4 (J9 (ys := _) 0 rfl rfl H8 D3 rfl) (E4 (C3 rfl (by rfl)) J0))
theorem Au0 (s : TState) (k : Str) (t : Int) (hg : goodState s = true) (hs : s.size ≤ 1048576) : GSpec Tryz.prog 118 [AV.agg s.cs, AV.str k, AV.int t] [] (fun _ : Value => True) (fun x => [.arr x 3 1 ((blocksOf s.Held k t).map fun n => [AV.int n])]) (fun x => AV.is x) := by
 have g := U8.1 hg
 obtain ⟨hs1, hs2, hs3, hs4, hs5⟩ := R4 hs
 refine H7 Tryz.func118 rfl Tryz.ntmps118 rfl ?_
 refine A3 (A2 ?_)
 refine L9 rfl rfl rfl rfl (A0 rfl) ?_
 intro b3
 refine A1 rfl rfl rfl (C0 rfl K1) ?_
 refine A4 (A3 (A2 ?_))
 refine R8 rfl rfl rfl rfl S7 C1 ?_
 intro v12
 refine B5 rfl rfl rfl rfl rfl ?_
 refine A4 (A3 (A3 (A2 ?_)))
 refine A1 rfl rfl rfl (B4 2 rfl C4 rfl G4 (A0 rfl) rfl) ?_
 refine A1 rfl rfl rfl (B3 1 rfl (A0 rfl) rfl J8 rfl) ?_
 refine A1 rfl rfl rfl (I5 rfl D0 (A0 rfl)) ?_
 refine A1 rfl rfl rfl (C6 rfl C2) ?_
 refine A4 (E1 ?_)
 refine Y7 [(1, _), (2, _), (6, _), (14, _), (15, _)] _ (fun (i : Nat) (v : Value) (ns : List Int) => i ≤ s.Held.length ∧ ns = blocksOf (s.Held.take i) k t) (fun (i : Nat) (v : Value) (ns : List Int) => [.arr v 3 1 (ns.map fun n => [AV.int n])]) (fun (i : Nat) (v : Value) (ns : List Int) => [(7, AV.is v), (16, AV.int i)]) (fun (i : Nat) (v : Value) (ns : List Int) => s.Held.length - i) (0) (v12) ([]) ?_ (S9 (by rfl) ⟨rfl, rfl, rfl, rfl, rfl, rfl, rfl, trivial⟩) ?_
 ·exact ⟨Nat.zero_le _, rfl⟩
 intro i v ns hinv
 refine A3 (A2 ?_)
 refine A1 rfl rfl rfl (L4 rfl (A0 rfl) (A0 rfl)) ?_
 refine A4 (A3 ?_)
 refine C8 (A0 rfl) ?_ ?_
 ·intro h17
  have k17 := of_decide_eq_true h17; try simp only [A6] at k17
  have hlt : i < s.Held.length := by omega
  obtain ⟨h, hx⟩ := get_some hlt
  obtain ⟨q1, q2, q3⟩ := AX1 g (G2 hx)
  obtain ⟨g1, g2, g3, g4, g5⟩ := U7 hs2 hx
  have hwh := Ad6 q3 k
  have hnl : ns.length ≤ 1048576 := by (rw [hinv.2]; have h9 := At9 (s.Held.take i) k t; rw [A8] at h9; omega)
  refine D2 (A3 (E1 (A3 (A2 ?_))))
  refine A1 rfl rfl rfl (K0 rfl D0 D3 (A0 rfl) (A0 rfl) hx (by first | omega | (simp only [A6, A8, B2, B6, A9, szR] at *; omega))) ?_
  refine A1 rfl rfl rfl (L8 rfl (A0 rfl) H8 D3) ?_
  refine G5 rfl rfl rfl rfl Tryz.zeroValue45 rfl ?_
  intro b9
  refine D9 0 rfl rfl rfl (A0 rfl) (A0 rfl) (E9 _) rfl D3 rfl ?_
  refine A4 (A3 (A2 ?_))
  refine A1 rfl rfl rfl (B4 4 rfl F1 rfl K4 (A0 rfl) rfl) ?_
  refine A1 rfl rfl rfl (B3 0 rfl (A0 rfl) rfl L7 rfl) ?_
  refine A5 rfl rfl rfl rfl rfl ?_
  refine A1 rfl rfl rfl (E5 rfl Tryz.call216 rfl (AF9 h.Writes k (by omega)) (A7 (A0 rfl) (A7 (A0 rfl) C9))) ?_
  refine A5 rfl rfl rfl rfl rfl ?_
  refine A1 rfl rfl rfl (F0 rfl (A0 rfl) rfl) ?_
  refine A1 rfl rfl rfl (F0 rfl (A0 rfl) rfl) ?_
  refine B5 rfl rfl rfl rfl rfl ?_
  refine B5 rfl rfl rfl rfl rfl ?_
  refine A4 (A3 (A2 ?_))
  refine A5 rfl rfl rfl rfl rfl ?_
  refine A5 rfl rfl rfl rfl rfl ?_
  refine B1 rfl rfl (B9 rfl rfl rfl) (fun hc => B4 1 rfl F1 rfl C1 (A0 rfl) rfl) ?_
  refine B1 rfl rfl (B9 rfl rfl rfl) (fun hc => B3 0 rfl (B0 rfl hc) rfl D1 rfl) ?_
  refine B1 rfl rfl (B9 rfl rfl rfl) (fun hc => C6 rfl (A0 rfl)) ?_
  refine B1 rfl rfl (B9 rfl rfl rfl) (fun hc => T6 rfl (B0 rfl hc) (B0 rfl hc)) ?_
  refine A1 rfl rfl rfl (I3 rfl (A0 rfl) (G0 rfl)) ?_
  refine A4 ?_
  refine C8 (A0 rfl) ?_ ?_
  ·intro h33
   refine A2 ?_
   refine A5 rfl rfl rfl rfl rfl ?_
   refine A1 rfl rfl rfl (B4 0 rfl F1 rfl C1 (A0 rfl) rfl) ?_
   refine A1 rfl rfl rfl (B3 0 rfl (A0 rfl) rfl D1 rfl) ?_
   refine A1 rfl rfl rfl (M8 rfl S7 C1 Tryz.zeroValue3 rfl rfl rfl rfl (D7 (A0 rfl) (K6 _ _) H6) rfl rfl) ?_
   refine M6 (by' := 8) 1 rfl rfl rfl rfl S7 Tryz.type3 rfl rfl rfl rfl rfl rfl (A0 rfl) (A0 rfl) rfl (by first | omega | (simp only [A6, A8, B2, B6, A9, szR] at *; omega)) ?_
   intro v38_1
   refine B5 rfl rfl rfl rfl rfl ?_
   refine A4 (A2 ?_)
   refine A1 rfl rfl rfl (H0 rfl (A0 rfl) C2 (by first | omega | (simp only [A6, A8, B2, B6, A9, szR] at *; omega))) ?_
   refine A5 rfl rfl rfl rfl rfl ?_
   refine A4 ?_
   refine V5 i v ns (i + 1) (v38_1) (ns ++ [h.Txn]) ?_ ?_ (Le.trans (J2 [0, 0] rfl) (N4 1 (by first | rfl | (rw [List.map_append]; rfl)) ⟨rfl, rfl, rfl, rfl, rfl, rfl, rfl, trivial⟩))
   ·first | exact ⟨by omega, by rw [AX0 hx (by rw [← hwh]; exact h33), hinv.2]⟩ | exact ⟨by omega, by rw [Ae2 hx (by rw [← hwh]; exact h33), hinv.2]⟩
   ·omega
  ·intro h33
   refine D2 (A2 ?_)
   refine A1 rfl rfl rfl (H0 rfl (A0 rfl) C2 (by first | omega | (simp only [A6, A8, B2, B6, A9, szR] at *; omega))) ?_
   refine A5 rfl rfl rfl rfl rfl ?_
   refine A4 ?_
   refine V5 i v ns (i + 1) (v) (ns) ?_ ?_ (Le.trans (J2 [0, 0] rfl) (N4 1 (by first | rfl | (rw [List.map_append]; rfl)) ⟨rfl, rfl, rfl, rfl, rfl, rfl, rfl, trivial⟩))
   ·first | exact ⟨by omega, by rw [AX0 hx (by rw [← hwh]; exact h33), hinv.2]⟩ | exact ⟨by omega, by rw [Ae2 hx (by rw [← hwh]; exact h33), hinv.2]⟩
   ·omega
 ·intro h17
  have k17 := of_decide_eq_false h17; try simp only [A6] at k17
  have hge : s.Held.length ≤ i := by omega
  have hns := hinv.2
  rw [List.take_of_length_le hge] at hns
  rw [← hns]
  refine I1 ?_
  refine A3 (A2 ?_)
  refine A5 rfl rfl rfl rfl rfl ?_
  refine B5 rfl rfl rfl rfl rfl ?_
  refine A4 ?_
  refine C7 ?_
  exact J6 [0] v (trivial) rfl (by rfl) (N2 rfl (C3 rfl (by rfl)))
theorem Ao0 (s : TState) (k : Str) (t : Int) (hg : goodState s = true) (hs : s.size ≤ 1048576) : FSpec Tryz.prog 118 [AV.agg s.cs, AV.str k, AV.int t] (ints (blocksOf s.Held k t)) :=
  V0 (Au0 s k t hg hs) fun x _ => M2 (List.mem_singleton.2 rfl) I7
theorem Aa0 (s : TState) (k : Str) (t : Int) (hs : s.size ≤ 1048576) (hk : k.length ≤ 1048576) : FSpec Tryz.prog 34 [AV.agg s.cs, AV.str k, AV.int t] (AV.tup [ints (blocksR s k t).1, AV.bool (blocksR s k t).2]) := by
 refine E7 Tryz.func34 rfl Tryz.ntmps34 rfl ?_
 refine A3 (A2 ?_)
 refine L9 rfl rfl rfl rfl (A0 rfl) ?_
 intro b3
 refine A1 rfl rfl rfl (C0 rfl (AN7 (sz := 1))) ?_
 refine A1 rfl rfl rfl (C0 rfl F3) ?_
 refine A4 (A3 (A3 (A2 ?_)))
 refine A1 rfl rfl rfl (F8 0 rfl (A0 rfl) rfl D8 C5 rfl) ?_
 refine A1 rfl rfl rfl (E5 rfl Tryz.call15 rfl (c8 _ (by first | assumption | omega)) (A7 (A0 rfl) C9)) ?_
 refine A1 rfl rfl rfl (J7 rfl (A0 rfl)) ?_
 refine A5 rfl rfl rfl rfl rfl ?_
 refine B1 rfl rfl (D4 rfl rfl rfl) (fun hc => C6 rfl (A0 rfl)) ?_
 refine B1 rfl rfl (D4 rfl rfl rfl) (fun hc => E5 rfl Tryz.call117 rfl (AC0 _ (by omega)) (A7 (B0 rfl hc) C9)) ?_
 refine B1 rfl rfl (D4 rfl rfl rfl) (fun hc => J7 rfl (B0 rfl hc)) ?_
 refine A1 rfl rfl rfl (P5 rfl (A0 rfl) (G0 rfl)) ?_
 refine A5 rfl rfl rfl rfl rfl ?_
 refine B1 rfl rfl (D4 rfl rfl rfl) (fun hc => C6 rfl (A0 rfl)) ?_
 refine B1 rfl rfl (D4 rfl rfl rfl) (fun hc => E5 rfl Tryz.call90 rfl (u9 _) (A7 (B0 rfl hc) C9)) ?_
 refine B1 rfl rfl (D4 rfl rfl rfl) (fun hc => J7 rfl (B0 rfl hc)) ?_
 refine A1 rfl rfl rfl (P5 rfl (A0 rfl) (G0 rfl)) ?_
 refine A4 ?_
 refine C8 (A0 rfl) ?_ ?_
 ·intro h20
  have he : blocksR s k t = ([], false) := if_neg (by intro h; simp only [Bool.and_eq_true] at h; rw [h.1.1, h.1.2, h.2] at h20; cases h20)
  rw [he]
  refine A3 (A2 ?_)
  refine A1 rfl rfl rfl (C0 rfl (AN7 (sz := 1))) ?_
  refine A1 rfl rfl rfl (C0 rfl F3) ?_
  refine A4 ?_
  refine C7 ?_
  exact U3 rfl (by decide) (E4 (C3 rfl (by rfl)) (E4 (C3 rfl (by rfl)) J0))
 ·intro h20
  simp only [Bool.or_eq_false_iff, Bool.not_eq_false'] at h20
  have he : blocksR s k t = (blocksOf s.Held k t, true) := if_pos (by rw [h20.1.1, h20.1.2, h20.2]; rfl)
  rw [he]
  have hg := h20.1.1
  refine D2 (A3 (A2 ?_))
  refine A1 rfl rfl rfl (F8 0 rfl (A0 rfl) rfl D8 C5 rfl) ?_
  refine A5 rfl rfl rfl rfl rfl ?_
  refine A5 rfl rfl rfl rfl rfl ?_
  refine A1 rfl rfl rfl (E5 rfl Tryz.call118 rfl (Ao0 _ _ _ (by assumption) (by first | assumption | omega)) (A7 (A0 rfl) (A7 (A0 rfl) (A7 (A0 rfl) C9)))) ?_
  refine B5 rfl rfl rfl rfl rfl ?_
  refine A1 rfl rfl rfl (C0 rfl F3) ?_
  refine A4 ?_
  refine C7 ?_
  exact U3 rfl (by decide) (E4 (C3 rfl (by rfl)) (E4 (C3 rfl (by rfl)) J0))
end Go.Proofs.YtnlhbdkcgaeimaaGreat

set_option linter.unusedVariables false
set_option linter.unusedSimpArgs false
set_option maxRecDepth 100000
set_option maxHeartbeats 1000000
namespace Go.Proofs.YtnlhbdkcgaeimaaGreat
open Go Go.AV Go.M
attribute [local irreducible] OpW OpA OpS AWP FSpec ESpec GSpec OpE RetOk RetOkG RvDen Le Ev GuardIs SrcIs Int.tmod Int.tdiv IntKind.wrap
theorem AA5 (l : List Str) (hl : l.length ≤ 4194304) : GSpec Tryz.prog 169 [strs l] [] (fun _ : Value => True) (fun v => [.arr v 9 1 (l.map fun s => [AV.str s])]) (fun v => AV.is v) := by
 refine H7 Tryz.func169 rfl Tryz.ntmps169 rfl ?_
 refine A3 (A2 ?_)
 refine A1 rfl rfl rfl (C0 rfl K1) ?_
 refine A4 (A3 (A2 ?_))
 refine R8 rfl rfl rfl rfl E3 E8 ?_
 intro v3
 refine A5 rfl rfl rfl rfl rfl ?_
 refine M6 (by' := 16) 0 rfl rfl rfl rfl E3 Tryz.type9 rfl rfl rfl rfl rfl rfl (A0 rfl) (A0 rfl) rfl (by simp only [B6, A6]; omega) ?_
 intro v5_1
 refine B5 rfl rfl rfl rfl rfl ?_
 refine A4 ?_
 refine C7 ?_
 exact J6 [0] v5_1 (trivial) rfl (by rfl) (N2 rfl (C3 rfl (by rfl)))
theorem AA6 (v : Value) (l : List Str) (s : Str) (hs : SrtS l) (hl : l.length ≤ 1000000) : GSpec Tryz.prog 122 [AV.is v, AV.str s] [.arr v 9 1 (l.map fun s => [AV.str s])] (fun _ : Value => True) (fun v' => [.arr v' 9 1 ((putS l s).map fun s => [AV.str s])]) (fun v' => AV.is v') := by
 refine H7 Tryz.func122 rfl Tryz.ntmps122 rfl ?_
 refine A3 (A2 ?_)
 refine A1 rfl rfl rfl (C0 rfl K1) ?_
 refine A4 (A3 (A2 ?_))
 refine A5 rfl rfl rfl rfl rfl ?_
 refine A1 rfl rfl rfl (U1 0 rfl E3 (A0 rfl) rfl) ?_
 refine B5 rfl rfl rfl rfl rfl ?_
 refine A4 (A3 (E1 ?_))
 refine K8 [(0, _), (1, _), (4, _)] _ (fun (k : Nat) => k ≤ l.length ∧ ∀ i y, k ≤ i → l[i]? = some y → Op.bytesLess s y = true) (fun (k : Nat) => []) (fun (k : Nat) => [(5, AV.int k)]) (fun (k : Nat) => k) (l.length) ?_ (L0 ⟨congrArg (fun z => some (AV.int z)) (by rw [A6]), rfl, rfl, rfl, trivial⟩) ?_
 ·exact ⟨Nat.le_refl _, fun i y h1 h2 => by (have := (List.getElem?_eq_some_iff.1 h2).1; omega)⟩
 intro k hinv
 obtain ⟨y, hy0⟩ : ∃ y, 0 < k → l[k - 1]? = some y := by (by_cases h9 : 0 < k; (have h8 := hinv.1; exact ⟨_, fun _ => List.getElem?_eq_getElem (show k - 1 < l.length by omega)⟩); exact ⟨[], fun h8 => absurd h8 h9⟩)
 refine A3 (A3 (A2 ?_))
 refine A5 rfl rfl rfl rfl rfl ?_
 refine A1 rfl rfl rfl (P1 rfl (A0 rfl) C2) ?_
 refine A5 rfl rfl rfl rfl rfl ?_
 refine B1 rfl rfl (B9 rfl rfl rfl) (fun hc => C6 rfl (A0 rfl)) ?_
 refine B1 rfl rfl (B9 rfl rfl rfl) (fun hc => C6 rfl (A0 rfl)) ?_
 refine B1 rfl rfl (B9 rfl rfl rfl) (fun hc => P8 rfl (B0 rfl hc) C2 (by first | omega | ((try simp only [A6, A8, B2, B6, A9, szR] at *); omega) | (have hc2 := hc; simp only [Bool.and_eq_true, Bool.or_eq_true, Bool.or_eq_false_iff, Bool.and_eq_false_iff, Bool.not_eq_true', Bool.not_eq_false', decide_eq_true_eq, decide_eq_false_iff_not, beq_iff_eq, bne_iff_ne, A6, A8] at hc2; omega))) ?_
 refine B1 rfl rfl (B9 rfl rfl rfl) (fun hc => R9 0 rfl E3 E8 (B0 rfl hc) rfl (B0 rfl hc) (by have := of_decide_eq_true hc; omega) (by have := of_decide_eq_true hc; have := hinv.1; simp only [A6]; omega)) ?_
 refine B1 rfl rfl (B9 rfl rfl rfl) (fun hc => o3 0 rfl (B0 rfl hc) rfl H2 (AC3 (hy0 (by have := of_decide_eq_true hc; omega)) (by have := of_decide_eq_true hc; omega))) ?_
 refine B1 rfl rfl (B9 rfl rfl rfl) (fun hc => C6 rfl (A0 rfl)) ?_
 refine B1 rfl rfl (B9 rfl rfl rfl) (fun hc => Ag7 rfl (B0 rfl hc) (B0 rfl hc)) ?_
 refine A1 rfl rfl rfl (I3 rfl (A0 rfl) (G0 rfl)) ?_
 refine A4 ?_
 refine C8 (A0 rfl) ?_ ?_
 ·intro h19
  have hkt : 0 < k ∧ Op.bytesLess s y = true := by (rw [Aq2] at h19; simpa using h19)
  refine D2 (E1 (A2 ?_))
  refine A5 rfl rfl rfl rfl rfl ?_
  refine A1 rfl rfl rfl (P8 rfl (A0 rfl) C2 (by first | omega | (simp only [A6, A8, B2, B6, A9, szR] at *; omega))) ?_
  refine B5 rfl rfl rfl rfl rfl ?_
  refine A4 ?_
  refine j3 ?_
  refine N0 k (k - 1) ?_ ?_ (L0 ⟨congrArg (fun z => some (AV.int z)) (by omega), rfl, rfl, rfl, trivial⟩)
  ·exact ⟨by omega, fun i z hi hz => if e : k ≤ i then hinv.2 i z e hz else (by have e2 : i = k - 1 := (by omega); subst e2; rw [hy0 hkt.1] at hz; injection hz with hz; subst hz; exact hkt.2)⟩
  ·omega
 ·intro h19
  have hng : 0 < k → Op.bytesLess s y = false := fun h => by (rw [Aq2] at h19; simpa [h] using h19)
  refine I1 ?_
  refine A3 (A3 (A2 ?_))
  refine A5 rfl rfl rfl rfl rfl ?_
  refine A1 rfl rfl rfl (P1 rfl (A0 rfl) C2) ?_
  refine A5 rfl rfl rfl rfl rfl ?_
  refine B1 rfl rfl (B9 rfl rfl rfl) (fun hc => C6 rfl (A0 rfl)) ?_
  refine B1 rfl rfl (B9 rfl rfl rfl) (fun hc => C6 rfl (A0 rfl)) ?_
  refine B1 rfl rfl (B9 rfl rfl rfl) (fun hc => P8 rfl (B0 rfl hc) C2 (by first | omega | ((try simp only [A6, A8, B2, B6, A9, szR] at *); omega) | (have hc2 := hc; simp only [Bool.and_eq_true, Bool.or_eq_true, Bool.or_eq_false_iff, Bool.and_eq_false_iff, Bool.not_eq_true', Bool.not_eq_false', decide_eq_true_eq, decide_eq_false_iff_not, beq_iff_eq, bne_iff_ne, A6, A8] at hc2; omega))) ?_
  refine B1 rfl rfl (B9 rfl rfl rfl) (fun hc => R9 0 rfl E3 E8 (B0 rfl hc) rfl (B0 rfl hc) (by have := of_decide_eq_true hc; omega) (by have := of_decide_eq_true hc; have := hinv.1; simp only [A6]; omega)) ?_
  refine B1 rfl rfl (B9 rfl rfl rfl) (fun hc => o3 0 rfl (B0 rfl hc) rfl H2 (AC3 (hy0 (by have := of_decide_eq_true hc; omega)) (by have := of_decide_eq_true hc; omega))) ?_
  refine B1 rfl rfl (B9 rfl rfl rfl) (fun hc => C6 rfl (A0 rfl)) ?_
  refine B1 rfl rfl (B9 rfl rfl rfl) (fun hc => w4 rfl (B0 rfl hc) (B0 rfl hc)) ?_
  refine A1 rfl rfl rfl (I3 rfl (A0 rfl) (G0 rfl)) ?_
  refine A4 ?_
  refine C8 (A0 rfl) ?_ ?_
  ·intro h32
   have hke : 0 < k ∧ y = s := by simpa using h32
   rw [AV1 hs (by rw [← hke.2]; exact hy0 hke.1)]
   refine A3 (A2 ?_)
   refine A5 rfl rfl rfl rfl rfl ?_
   refine B5 rfl rfl rfl rfl rfl ?_
   refine A4 ?_
   refine C7 ?_
   exact J6 [0] v (trivial) rfl (by first | rfl | exact congrArg (fun z => [Own.arr _ 9 1 z]) (by show List.map (fun s => [AV.str s]) (l.take k ++ s :: l.drop k) = (List.map (fun s => [AV.str s]) (l.take k) ++ [[AV.str s]]) ++ List.map (fun s => [AV.str s]) (l.drop k); simp)) (N2 rfl (C3 rfl (by rfl)))
  ·intro h32
   have hne : 0 < k → y ≠ s := fun h e => by simp [h, e] at h32
   rw [Ab9 hs hinv.1 hinv.2 (fun z hz hzz => by rw [hy0 hz] at hzz; injection hzz with hzz; subst hzz; exact ⟨hng hz, hne hz⟩)]
   refine D2 (A3 (A2 ?_))
   refine A5 rfl rfl rfl rfl rfl ?_
   refine A5 rfl rfl rfl rfl rfl ?_
   refine A1 rfl rfl rfl (AO2 0 rfl E3 E8 (A0 rfl) rfl (A0 rfl) (by omega) (by simp only [A6]; omega)) ?_
   refine Ab1 [] rfl rfl rfl rfl Tryz.call169 rfl (AA5 (l.drop k) (by rw [List.length_drop]; omega)) rfl (M5 (f9 (A0 rfl) (lt_tailm (G2 (i := 0) rfl) (by omega) (by omega))) T1) (by first | exact Q2 | (intro _; exact Q2) | (intro _; first | exact I4 _ | exact F4 _ _ | exact F6 _ | exact G6 _ | exact H1) | (intro _; refine Y3 ?_; (repeat (first | exact F5 | (refine D5 (by first | (first | exact I4 _ | exact F4 _ _ | exact F6 _ | exact G6 _ | exact H1) | (refine Y4 ?_; (repeat (first | exact F5 | (refine D5 (by first | exact I4 _ | exact F4 _ _ | exact F6 _ | exact G6 _ | exact H1) ?_))))) ?_))); done) | (intro _; refine Y4 ?_; (repeat (first | exact F5 | (refine D5 (by first | exact I4 _ | exact F4 _ _ | exact F6 _ | exact G6 _ | exact H1) ?_))); done) | ((repeat (first | exact Q2 | (refine P6 (X1 ?_) ?_; (repeat (first | exact F5 | (refine D5 (by first | exact I4 _ | exact F4 _ _ | exact F6 _ | exact G6 _ | exact H1) ?_)))) | (refine P6 (X2 ?_) ?_; (repeat (first | exact X3 | (refine X5 (fun _ => ?_); (first | exact TWrite.flat _ | exact TFeedItem.flat _ | exact TIdx.flat _ | exact TVer.flat _ | (repeat (first | exact F5 | (refine D5 (by first | exact I4 _ | exact F4 _ _ | exact F6 _ | exact G6 _ | exact H1) ?_))))) | (refine X6 ?_; (first | exact TWrite.flat _ | exact TFeedItem.flat _ | exact TIdx.flat _ | exact TVer.flat _ | (repeat (first | exact F5 | (refine D5 (by first | exact I4 _ | exact F4 _ _ | exact F6 _ | exact G6 _ | exact H1) ?_))))) | (refine V7 ?_ ?_; (first | exact TWrite.flat _ | exact TFeedItem.flat _ | exact TIdx.flat _ | exact TVer.flat _ | (repeat (first | exact F5 | (refine D5 (by first | exact I4 _ | exact F4 _ _ | exact F6 _ | exact G6 _ | exact H1) ?_))))) | refine X4 ?_ ?_))))); done) | (intro _; (repeat (first | exact Q2 | (refine P6 (X1 ?_) ?_; (repeat (first | exact F5 | (refine D5 (by first | exact I4 _ | exact F4 _ _ | exact F6 _ | exact G6 _ | exact H1) ?_)))) | (refine P6 (X2 ?_) ?_; (repeat (first | exact X3 | (refine X5 (fun _ => ?_); (first | exact TWrite.flat _ | exact TFeedItem.flat _ | exact TIdx.flat _ | exact TVer.flat _ | (repeat (first | exact F5 | (refine D5 (by first | exact I4 _ | exact F4 _ _ | exact F6 _ | exact G6 _ | exact H1) ?_))))) | (refine X6 ?_; (first | exact TWrite.flat _ | exact TFeedItem.flat _ | exact TIdx.flat _ | exact TVer.flat _ | (repeat (first | exact F5 | (refine D5 (by first | exact I4 _ | exact F4 _ _ | exact F6 _ | exact G6 _ | exact H1) ?_))))) | (refine V7 ?_ ?_; (first | exact TWrite.flat _ | exact TFeedItem.flat _ | exact TIdx.flat _ | exact TVer.flat _ | (repeat (first | exact F5 | (refine D5 (by first | exact I4 _ | exact F4 _ _ | exact F6 _ | exact G6 _ | exact H1) ?_))))) | refine X4 ?_ ?_))))); done)) (by first | exact Q2 | (intro _; exact Q2) | (intro _; first | exact I4 _ | exact F4 _ _ | exact F6 _ | exact G6 _ | exact H1) | (intro _; refine Y3 ?_; (repeat (first | exact F5 | (refine D5 (by first | (first | exact I4 _ | exact F4 _ _ | exact F6 _ | exact G6 _ | exact H1) | (refine Y4 ?_; (repeat (first | exact F5 | (refine D5 (by first | exact I4 _ | exact F4 _ _ | exact F6 _ | exact G6 _ | exact H1) ?_))))) ?_))); done) | (intro _; refine Y4 ?_; (repeat (first | exact F5 | (refine D5 (by first | exact I4 _ | exact F4 _ _ | exact F6 _ | exact G6 _ | exact H1) ?_))); done) | ((repeat (first | exact Q2 | (refine P6 (X1 ?_) ?_; (repeat (first | exact F5 | (refine D5 (by first | exact I4 _ | exact F4 _ _ | exact F6 _ | exact G6 _ | exact H1) ?_)))) | (refine P6 (X2 ?_) ?_; (repeat (first | exact X3 | (refine X5 (fun _ => ?_); (first | exact TWrite.flat _ | exact TFeedItem.flat _ | exact TIdx.flat _ | exact TVer.flat _ | (repeat (first | exact F5 | (refine D5 (by first | exact I4 _ | exact F4 _ _ | exact F6 _ | exact G6 _ | exact H1) ?_))))) | (refine X6 ?_; (first | exact TWrite.flat _ | exact TFeedItem.flat _ | exact TIdx.flat _ | exact TVer.flat _ | (repeat (first | exact F5 | (refine D5 (by first | exact I4 _ | exact F4 _ _ | exact F6 _ | exact G6 _ | exact H1) ?_))))) | (refine V7 ?_ ?_; (first | exact TWrite.flat _ | exact TFeedItem.flat _ | exact TIdx.flat _ | exact TVer.flat _ | (repeat (first | exact F5 | (refine D5 (by first | exact I4 _ | exact F4 _ _ | exact F6 _ | exact G6 _ | exact H1) ?_))))) | refine X4 ?_ ?_))))); done) | (intro _; (repeat (first | exact Q2 | (refine P6 (X1 ?_) ?_; (repeat (first | exact F5 | (refine D5 (by first | exact I4 _ | exact F4 _ _ | exact F6 _ | exact G6 _ | exact H1) ?_)))) | (refine P6 (X2 ?_) ?_; (repeat (first | exact X3 | (refine X5 (fun _ => ?_); (first | exact TWrite.flat _ | exact TFeedItem.flat _ | exact TIdx.flat _ | exact TVer.flat _ | (repeat (first | exact F5 | (refine D5 (by first | exact I4 _ | exact F4 _ _ | exact F6 _ | exact G6 _ | exact H1) ?_))))) | (refine X6 ?_; (first | exact TWrite.flat _ | exact TFeedItem.flat _ | exact TIdx.flat _ | exact TVer.flat _ | (repeat (first | exact F5 | (refine D5 (by first | exact I4 _ | exact F4 _ _ | exact F6 _ | exact G6 _ | exact H1) ?_))))) | (refine V7 ?_ ?_; (first | exact TWrite.flat _ | exact TFeedItem.flat _ | exact TIdx.flat _ | exact TVer.flat _ | (repeat (first | exact F5 | (refine D5 (by first | exact I4 _ | exact F4 _ _ | exact F6 _ | exact G6 _ | exact H1) ?_))))) | refine X4 ?_ ?_))))); done)) (by first | exact Q2 | (intro _; exact Q2) | (intro _; first | exact I4 _ | exact F4 _ _ | exact F6 _ | exact G6 _ | exact H1) | (intro _; refine Y3 ?_; (repeat (first | exact F5 | (refine D5 (by first | (first | exact I4 _ | exact F4 _ _ | exact F6 _ | exact G6 _ | exact H1) | (refine Y4 ?_; (repeat (first | exact F5 | (refine D5 (by first | exact I4 _ | exact F4 _ _ | exact F6 _ | exact G6 _ | exact H1) ?_))))) ?_))); done) | (intro _; refine Y4 ?_; (repeat (first | exact F5 | (refine D5 (by first | exact I4 _ | exact F4 _ _ | exact F6 _ | exact G6 _ | exact H1) ?_))); done) | ((repeat (first | exact Q2 | (refine P6 (X1 ?_) ?_; (repeat (first | exact F5 | (refine D5 (by first | exact I4 _ | exact F4 _ _ | exact F6 _ | exact G6 _ | exact H1) ?_)))) | (refine P6 (X2 ?_) ?_; (repeat (first | exact X3 | (refine X5 (fun _ => ?_); (first | exact TWrite.flat _ | exact TFeedItem.flat _ | exact TIdx.flat _ | exact TVer.flat _ | (repeat (first | exact F5 | (refine D5 (by first | exact I4 _ | exact F4 _ _ | exact F6 _ | exact G6 _ | exact H1) ?_))))) | (refine X6 ?_; (first | exact TWrite.flat _ | exact TFeedItem.flat _ | exact TIdx.flat _ | exact TVer.flat _ | (repeat (first | exact F5 | (refine D5 (by first | exact I4 _ | exact F4 _ _ | exact F6 _ | exact G6 _ | exact H1) ?_))))) | (refine V7 ?_ ?_; (first | exact TWrite.flat _ | exact TFeedItem.flat _ | exact TIdx.flat _ | exact TVer.flat _ | (repeat (first | exact F5 | (refine D5 (by first | exact I4 _ | exact F4 _ _ | exact F6 _ | exact G6 _ | exact H1) ?_))))) | refine X4 ?_ ?_))))); done) | (intro _; (repeat (first | exact Q2 | (refine P6 (X1 ?_) ?_; (repeat (first | exact F5 | (refine D5 (by first | exact I4 _ | exact F4 _ _ | exact F6 _ | exact G6 _ | exact H1) ?_)))) | (refine P6 (X2 ?_) ?_; (repeat (first | exact X3 | (refine X5 (fun _ => ?_); (first | exact TWrite.flat _ | exact TFeedItem.flat _ | exact TIdx.flat _ | exact TVer.flat _ | (repeat (first | exact F5 | (refine D5 (by first | exact I4 _ | exact F4 _ _ | exact F6 _ | exact G6 _ | exact H1) ?_))))) | (refine X6 ?_; (first | exact TWrite.flat _ | exact TFeedItem.flat _ | exact TIdx.flat _ | exact TVer.flat _ | (repeat (first | exact F5 | (refine D5 (by first | exact I4 _ | exact F4 _ _ | exact F6 _ | exact G6 _ | exact H1) ?_))))) | (refine V7 ?_ ?_; (first | exact TWrite.flat _ | exact TFeedItem.flat _ | exact TIdx.flat _ | exact TVer.flat _ | (repeat (first | exact F5 | (refine D5 (by first | exact I4 _ | exact F4 _ _ | exact F6 _ | exact G6 _ | exact H1) ?_))))) | refine X4 ?_ ?_))))); done)) ?_
   intro x37 ok37
   refine B5 rfl rfl rfl rfl rfl ?_
   refine A4 (A3 ?_)
   refine AWP.le (Y6 [0] 6 rfl rfl (M2 (G2 (i := 0) rfl) I7) (S3 0 rfl rfl R7)) ?_
   refine A2 ?_
   refine A5 rfl rfl rfl rfl rfl ?_
   refine A5 rfl rfl rfl rfl rfl ?_
   refine sq_ahi 0 rfl rfl rfl rfl E3 E8 (A0 rfl) rfl (A0 rfl) (by omega) (by simp only [A6]; omega) ?_
   intro v40_1
   rw [Int.toNat_natCast, ← List.map_take]
   refine Ab1 [] rfl rfl rfl rfl Tryz.call169 rfl (AA5 (l.take k) (by rw [A8]; omega)) rfl (M5 (AX9 0 (A0 rfl) rfl) T1) (by first | exact Q2 | (intro _; exact Q2) | (intro _; first | exact I4 _ | exact F4 _ _ | exact F6 _ | exact G6 _ | exact H1) | (intro _; refine Y3 ?_; (repeat (first | exact F5 | (refine D5 (by first | (first | exact I4 _ | exact F4 _ _ | exact F6 _ | exact G6 _ | exact H1) | (refine Y4 ?_; (repeat (first | exact F5 | (refine D5 (by first | exact I4 _ | exact F4 _ _ | exact F6 _ | exact G6 _ | exact H1) ?_))))) ?_))); done) | (intro _; refine Y4 ?_; (repeat (first | exact F5 | (refine D5 (by first | exact I4 _ | exact F4 _ _ | exact F6 _ | exact G6 _ | exact H1) ?_))); done) | ((repeat (first | exact Q2 | (refine P6 (X1 ?_) ?_; (repeat (first | exact F5 | (refine D5 (by first | exact I4 _ | exact F4 _ _ | exact F6 _ | exact G6 _ | exact H1) ?_)))) | (refine P6 (X2 ?_) ?_; (repeat (first | exact X3 | (refine X5 (fun _ => ?_); (first | exact TWrite.flat _ | exact TFeedItem.flat _ | exact TIdx.flat _ | exact TVer.flat _ | (repeat (first | exact F5 | (refine D5 (by first | exact I4 _ | exact F4 _ _ | exact F6 _ | exact G6 _ | exact H1) ?_))))) | (refine X6 ?_; (first | exact TWrite.flat _ | exact TFeedItem.flat _ | exact TIdx.flat _ | exact TVer.flat _ | (repeat (first | exact F5 | (refine D5 (by first | exact I4 _ | exact F4 _ _ | exact F6 _ | exact G6 _ | exact H1) ?_))))) | (refine V7 ?_ ?_; (first | exact TWrite.flat _ | exact TFeedItem.flat _ | exact TIdx.flat _ | exact TVer.flat _ | (repeat (first | exact F5 | (refine D5 (by first | exact I4 _ | exact F4 _ _ | exact F6 _ | exact G6 _ | exact H1) ?_))))) | refine X4 ?_ ?_))))); done) | (intro _; (repeat (first | exact Q2 | (refine P6 (X1 ?_) ?_; (repeat (first | exact F5 | (refine D5 (by first | exact I4 _ | exact F4 _ _ | exact F6 _ | exact G6 _ | exact H1) ?_)))) | (refine P6 (X2 ?_) ?_; (repeat (first | exact X3 | (refine X5 (fun _ => ?_); (first | exact TWrite.flat _ | exact TFeedItem.flat _ | exact TIdx.flat _ | exact TVer.flat _ | (repeat (first | exact F5 | (refine D5 (by first | exact I4 _ | exact F4 _ _ | exact F6 _ | exact G6 _ | exact H1) ?_))))) | (refine X6 ?_; (first | exact TWrite.flat _ | exact TFeedItem.flat _ | exact TIdx.flat _ | exact TVer.flat _ | (repeat (first | exact F5 | (refine D5 (by first | exact I4 _ | exact F4 _ _ | exact F6 _ | exact G6 _ | exact H1) ?_))))) | (refine V7 ?_ ?_; (first | exact TWrite.flat _ | exact TFeedItem.flat _ | exact TIdx.flat _ | exact TVer.flat _ | (repeat (first | exact F5 | (refine D5 (by first | exact I4 _ | exact F4 _ _ | exact F6 _ | exact G6 _ | exact H1) ?_))))) | refine X4 ?_ ?_))))); done)) (by first | exact Q2 | (intro _; exact Q2) | (intro _; first | exact I4 _ | exact F4 _ _ | exact F6 _ | exact G6 _ | exact H1) | (intro _; refine Y3 ?_; (repeat (first | exact F5 | (refine D5 (by first | (first | exact I4 _ | exact F4 _ _ | exact F6 _ | exact G6 _ | exact H1) | (refine Y4 ?_; (repeat (first | exact F5 | (refine D5 (by first | exact I4 _ | exact F4 _ _ | exact F6 _ | exact G6 _ | exact H1) ?_))))) ?_))); done) | (intro _; refine Y4 ?_; (repeat (first | exact F5 | (refine D5 (by first | exact I4 _ | exact F4 _ _ | exact F6 _ | exact G6 _ | exact H1) ?_))); done) | ((repeat (first | exact Q2 | (refine P6 (X1 ?_) ?_; (repeat (first | exact F5 | (refine D5 (by first | exact I4 _ | exact F4 _ _ | exact F6 _ | exact G6 _ | exact H1) ?_)))) | (refine P6 (X2 ?_) ?_; (repeat (first | exact X3 | (refine X5 (fun _ => ?_); (first | exact TWrite.flat _ | exact TFeedItem.flat _ | exact TIdx.flat _ | exact TVer.flat _ | (repeat (first | exact F5 | (refine D5 (by first | exact I4 _ | exact F4 _ _ | exact F6 _ | exact G6 _ | exact H1) ?_))))) | (refine X6 ?_; (first | exact TWrite.flat _ | exact TFeedItem.flat _ | exact TIdx.flat _ | exact TVer.flat _ | (repeat (first | exact F5 | (refine D5 (by first | exact I4 _ | exact F4 _ _ | exact F6 _ | exact G6 _ | exact H1) ?_))))) | (refine V7 ?_ ?_; (first | exact TWrite.flat _ | exact TFeedItem.flat _ | exact TIdx.flat _ | exact TVer.flat _ | (repeat (first | exact F5 | (refine D5 (by first | exact I4 _ | exact F4 _ _ | exact F6 _ | exact G6 _ | exact H1) ?_))))) | refine X4 ?_ ?_))))); done) | (intro _; (repeat (first | exact Q2 | (refine P6 (X1 ?_) ?_; (repeat (first | exact F5 | (refine D5 (by first | exact I4 _ | exact F4 _ _ | exact F6 _ | exact G6 _ | exact H1) ?_)))) | (refine P6 (X2 ?_) ?_; (repeat (first | exact X3 | (refine X5 (fun _ => ?_); (first | exact TWrite.flat _ | exact TFeedItem.flat _ | exact TIdx.flat _ | exact TVer.flat _ | (repeat (first | exact F5 | (refine D5 (by first | exact I4 _ | exact F4 _ _ | exact F6 _ | exact G6 _ | exact H1) ?_))))) | (refine X6 ?_; (first | exact TWrite.flat _ | exact TFeedItem.flat _ | exact TIdx.flat _ | exact TVer.flat _ | (repeat (first | exact F5 | (refine D5 (by first | exact I4 _ | exact F4 _ _ | exact F6 _ | exact G6 _ | exact H1) ?_))))) | (refine V7 ?_ ?_; (first | exact TWrite.flat _ | exact TFeedItem.flat _ | exact TIdx.flat _ | exact TVer.flat _ | (repeat (first | exact F5 | (refine D5 (by first | exact I4 _ | exact F4 _ _ | exact F6 _ | exact G6 _ | exact H1) ?_))))) | refine X4 ?_ ?_))))); done)) (by first | exact Q2 | (intro _; exact Q2) | (intro _; first | exact I4 _ | exact F4 _ _ | exact F6 _ | exact G6 _ | exact H1) | (intro _; refine Y3 ?_; (repeat (first | exact F5 | (refine D5 (by first | (first | exact I4 _ | exact F4 _ _ | exact F6 _ | exact G6 _ | exact H1) | (refine Y4 ?_; (repeat (first | exact F5 | (refine D5 (by first | exact I4 _ | exact F4 _ _ | exact F6 _ | exact G6 _ | exact H1) ?_))))) ?_))); done) | (intro _; refine Y4 ?_; (repeat (first | exact F5 | (refine D5 (by first | exact I4 _ | exact F4 _ _ | exact F6 _ | exact G6 _ | exact H1) ?_))); done) | ((repeat (first | exact Q2 | (refine P6 (X1 ?_) ?_; (repeat (first | exact F5 | (refine D5 (by first | exact I4 _ | exact F4 _ _ | exact F6 _ | exact G6 _ | exact H1) ?_)))) | (refine P6 (X2 ?_) ?_; (repeat (first | exact X3 | (refine X5 (fun _ => ?_); (first | exact TWrite.flat _ | exact TFeedItem.flat _ | exact TIdx.flat _ | exact TVer.flat _ | (repeat (first | exact F5 | (refine D5 (by first | exact I4 _ | exact F4 _ _ | exact F6 _ | exact G6 _ | exact H1) ?_))))) | (refine X6 ?_; (first | exact TWrite.flat _ | exact TFeedItem.flat _ | exact TIdx.flat _ | exact TVer.flat _ | (repeat (first | exact F5 | (refine D5 (by first | exact I4 _ | exact F4 _ _ | exact F6 _ | exact G6 _ | exact H1) ?_))))) | (refine V7 ?_ ?_; (first | exact TWrite.flat _ | exact TFeedItem.flat _ | exact TIdx.flat _ | exact TVer.flat _ | (repeat (first | exact F5 | (refine D5 (by first | exact I4 _ | exact F4 _ _ | exact F6 _ | exact G6 _ | exact H1) ?_))))) | refine X4 ?_ ?_))))); done) | (intro _; (repeat (first | exact Q2 | (refine P6 (X1 ?_) ?_; (repeat (first | exact F5 | (refine D5 (by first | exact I4 _ | exact F4 _ _ | exact F6 _ | exact G6 _ | exact H1) ?_)))) | (refine P6 (X2 ?_) ?_; (repeat (first | exact X3 | (refine X5 (fun _ => ?_); (first | exact TWrite.flat _ | exact TFeedItem.flat _ | exact TIdx.flat _ | exact TVer.flat _ | (repeat (first | exact F5 | (refine D5 (by first | exact I4 _ | exact F4 _ _ | exact F6 _ | exact G6 _ | exact H1) ?_))))) | (refine X6 ?_; (first | exact TWrite.flat _ | exact TFeedItem.flat _ | exact TIdx.flat _ | exact TVer.flat _ | (repeat (first | exact F5 | (refine D5 (by first | exact I4 _ | exact F4 _ _ | exact F6 _ | exact G6 _ | exact H1) ?_))))) | (refine V7 ?_ ?_; (first | exact TWrite.flat _ | exact TFeedItem.flat _ | exact TIdx.flat _ | exact TVer.flat _ | (repeat (first | exact F5 | (refine D5 (by first | exact I4 _ | exact F4 _ _ | exact F6 _ | exact G6 _ | exact H1) ?_))))) | refine X4 ?_ ?_))))); done)) ?_
   intro x41 ok41
   refine A5 rfl rfl rfl rfl rfl ?_
   refine A1 rfl rfl rfl (M8 rfl E3 E8 Tryz.zeroValue9 rfl rfl rfl rfl (D7 (A0 rfl) (O0 _) H6) rfl rfl) ?_
   refine M6 (by' := 16) 0 rfl rfl rfl rfl E3 Tryz.type9 rfl rfl rfl rfl rfl rfl (A0 rfl) (A0 rfl) rfl (by simp only [A6, A8, A9]; omega) ?_
   intro v44_2
   refine A5 rfl rfl rfl rfl rfl ?_
   refine M6 (by' := 16) 0 rfl rfl rfl rfl E3 Tryz.type9 rfl rfl rfl rfl rfl rfl (A0 rfl) (A0 rfl) rfl (by simp only [A6, A8, List.length_drop, H9, A9]; omega) ?_
   intro v46_3
   refine B5 rfl rfl rfl rfl rfl ?_
   refine A4 ?_
   refine C7 ?_
   exact J6 [0] v46_3 (trivial) rfl (by first | rfl | exact congrArg (fun z => [Own.arr _ 9 1 z]) (by show List.map (fun s => [AV.str s]) (l.take k ++ s :: l.drop k) = (List.map (fun s => [AV.str s]) (l.take k) ++ [[AV.str s]]) ++ List.map (fun s => [AV.str s]) (l.drop k); simp)) (N2 rfl (C3 rfl (by rfl)))
end Go.Proofs.YtnlhbdkcgaeimaaGreat
