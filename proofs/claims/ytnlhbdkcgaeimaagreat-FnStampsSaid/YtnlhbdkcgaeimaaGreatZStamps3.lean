/- Texts of the claim, part 3. -/
import Derived.Laws.BytesArg
import Derived.Test.YtnlhbdkcgaeimaaGreatRows
import Derived.Sort.OwnSortedInts
import Derived.Sort.EncStr
import Derived.Shelf.GgSortFunc.RowK
import Derived.Shelf.Sort.Plain
import Derived.Shelf.Slices.In.SortNone
import Derived.Test.YtnlhbdkcgaeimaaGreatProg
import Derived.Test.YtnlhbdkcgaeimaaGreatZStamps2

set_option linter.unusedVariables false
set_option linter.unusedSimpArgs false
set_option maxRecDepth 100000
namespace Go.Proofs.YtnlhbdkcgaeimaaGreat
open Go Go.AV Go.M
attribute [local irreducible] OpW OpA OpS AWP FSpec ESpec RetOk RvDen Le Ev GuardIs
theorem j6 {c : TCell} {n : Nat} (h : c.size ≤ n) : c.Key.length ≤ n ∧ c.Vers.length ≤ n ∧ sizeL TVer.size c.Vers ≤ n := by
  unfold TCell.size at h
  have : c.Vers.length ≤ n := Nat.le_trans P5 (show sizeL TVer.size c.Vers ≤ n by omega)
  omega
theorem Y2 (t : Int) : FSpec Tryz.prog 90 [AV.int t] (AV.bool (isTrue t)) := by
 refine D9 Tryz.func90 rfl Tryz.ntmps90 rfl ?_
 refine A3 (A2 ?_)
 refine A1 rfl rfl rfl (B8 rfl F0) ?_
 refine A5 (A3 (A2 ?_))
 refine A4 rfl rfl rfl rfl rfl ?_
 refine A1 rfl rfl rfl (D6 rfl Tryz.call94 rfl (W8 _ _ _) (A7 (A0 rfl) (A7 B5 (A7 B5 C0)))) ?_
 refine B2 rfl rfl rfl rfl rfl ?_
 refine A5 ?_
 refine C6 ?_
 exact H1 rfl (C3 rfl (by first | rfl | (refine congrArg AV.bool ?_; simp_all; done)))
theorem Z8 (t : Int) : FSpec Tryz.prog 147 [AV.int t] (AV.bool (within t 1 100000)) := by
 refine D9 Tryz.func147 rfl Tryz.ntmps147 rfl ?_
 refine A3 (A2 ?_)
 refine A1 rfl rfl rfl (B8 rfl F0) ?_
 refine A5 (A3 (A2 ?_))
 refine A4 rfl rfl rfl rfl rfl ?_
 refine A1 rfl rfl rfl (D6 rfl Tryz.call137 rfl (T8 _ _ _) (A7 (A0 rfl) (A7 B5 (A7 B5 C0)))) ?_
 refine B2 rfl rfl rfl rfl rfl ?_
 refine A5 ?_
 refine C6 ?_
 exact H1 rfl (C3 rfl (by first | rfl | (refine congrArg AV.bool ?_; simp_all; done)))
theorem o1 (t : Int) : FSpec Tryz.prog 120 [AV.int t] (AV.bool (isTrue t)) := by
 refine D9 Tryz.func120 rfl Tryz.ntmps120 rfl ?_
 refine A3 (A2 ?_)
 refine A1 rfl rfl rfl (B8 rfl F0) ?_
 refine A5 (A3 (A2 ?_))
 refine A4 rfl rfl rfl rfl rfl ?_
 refine A1 rfl rfl rfl (D6 rfl Tryz.call137 rfl (T8 _ _ _) (A7 (A0 rfl) (A7 B5 (A7 B5 C0)))) ?_
 refine B2 rfl rfl rfl rfl rfl ?_
 refine A5 ?_
 refine C6 ?_
 exact H1 rfl (C3 rfl (by first | rfl | (refine congrArg AV.bool ?_; simp_all; done)))
theorem Ad7 (c : TCell) (hs : c.size ≤ 4194304) : FSpec Tryz.prog 181 [AV.agg c.cs] (AV.bool (isCell c)) := by
 have hcl := j6 hs
 refine D9 Tryz.func181 rfl Tryz.ntmps181 rfl ?_
 refine A3 (A2 ?_)
 refine J6 rfl rfl rfl rfl (A0 rfl) ?_
 intro b1
 refine A1 rfl rfl rfl (B8 rfl F0) ?_
 refine A5 (A3 (A3 (A2 ?_)))
 refine A1 rfl rfl rfl (B6 1 rfl G8 rfl Q0 (A0 rfl) rfl) ?_
 refine A1 rfl rfl rfl (B4 0 rfl (A0 rfl) rfl R7 rfl) ?_
 refine A1 rfl rfl rfl (H3 rfl K2 (A0 rfl)) ?_
 refine A1 rfl rfl rfl (C4 rfl B5) ?_
 refine A5 (D7 ?_)
 refine J0 [(1, _), (6, _), (7, _)] _ (fun (i : Nat) => i ≤ c.Vers.length ∧ (c.Vers.all verGood && adj verLess c.Vers) = ((c.Vers.drop i).all verGood && adj verLess (c.Vers.drop (i - 1)))) (fun (i : Nat) => []) (fun (i : Nat) => [(8, AV.int i)]) (fun (i : Nat) => c.Vers.length - i) (0) ?_ (J1 ⟨rfl, rfl, rfl, rfl, trivial⟩) ?_
 ·exact ⟨Nat.zero_le _, rfl⟩
 intro i hinv
 refine A3 (A2 ?_)
 refine A1 rfl rfl rfl (J8 rfl (A0 rfl) (A0 rfl)) ?_
 refine A5 (A3 ?_)
 refine C8 (A0 rfl) ?_ ?_
 ·intro h9
  have k9 := of_decide_eq_true h9; try simp only [A6] at k9
  have hlt : i < c.Vers.length := by omega
  obtain ⟨x, hx⟩ := get_some hlt
  obtain ⟨y, hy⟩ := get_some (show i - 1 < c.Vers.length by omega)
  have hsx : x.size ≤ 4194304 := Nat.le_trans (Y1 hx) hcl.2.2
  unfold TVer.size at hsx
  refine D1 (A3 (D7 (A3 (A2 ?_))))
  refine A4 rfl rfl rfl rfl rfl ?_
  refine A1 rfl rfl rfl (J4 rfl K2 O8 (A0 rfl) (A0 rfl) hx (by first | omega | (simp only [A6, B0, B7, C1, B3, szR] at *; omega))) ?_
  refine A1 rfl rfl rfl (M7 rfl (A0 rfl) Tryz.isAgg197 O8) ?_
  refine F3 rfl rfl rfl rfl Tryz.zeroValue197 rfl ?_
  intro b4
  refine B2 rfl rfl rfl rfl rfl ?_
  refine D5 0 rfl rfl rfl (A0 rfl) (A0 rfl) (E8 _) rfl O8 rfl ?_
  refine A5 (A3 ?_)
  refine K0 (by kernel_rfl) (by kernel_rfl) rfl ?_
  refine C2 rfl rfl (B6 0 rfl P3 rfl B9 (A0 rfl) rfl) ?_
  refine C2 rfl rfl (B4 0 rfl (A0 rfl) rfl C7 rfl) ?_
  refine C2 rfl rfl (D6 rfl Tryz.call134 rfl (W9 _) (A7 (A0 rfl) C0)) ?_
  refine C2 rfl rfl (I4 rfl (A0 rfl)) ?_
  refine C2 rfl rfl (C4 rfl (A0 rfl)) ?_
  refine D8 rfl (C9 rfl rfl rfl) (fun hc => B6 1 rfl P3 rfl F5 (A0 rfl) rfl) ?_
  refine D8 rfl (C9 rfl rfl rfl) (fun hc => B4 0 rfl (A8 rfl hc) rfl H0 rfl) ?_
  refine D8 rfl (C9 rfl rfl rfl) (fun hc => B6 2 rfl P3 rfl K5 (A0 rfl) rfl) ?_
  refine D8 rfl (C9 rfl rfl rfl) (fun hc => B4 0 rfl (A8 rfl hc) rfl M6 rfl) ?_
  refine D8 rfl (C9 rfl rfl rfl) (fun hc => D6 rfl Tryz.call242 rfl (AD6 _ _ (by omega)) (A7 (A8 rfl hc) (A7 (A8 rfl hc) C0))) ?_
  refine D8 rfl (C9 rfl rfl rfl) (fun hc => I4 rfl (A8 rfl hc)) ?_
  refine C2 rfl rfl (N4 rfl (A0 rfl) (E3 rfl)) ?_
  refine C2 rfl rfl (C4 rfl (A0 rfl)) ?_
  refine D8 rfl (C9 rfl rfl rfl) (fun hc => C4 rfl (A0 rfl)) ?_
  refine D8 rfl (C9 rfl rfl rfl) (fun hc => O5 rfl (A8 rfl hc) B5) ?_
  refine D8 rfl (C9 rfl rfl rfl) (fun hc => C4 rfl (A8 rfl hc)) ?_
  refine D8 rfl (E0 rfl rfl rfl) (fun hc => B6 0 rfl P3 rfl B9 (A0 rfl) rfl) ?_
  refine D8 rfl (E0 rfl rfl rfl) (fun hc => B4 0 rfl (A8 rfl hc) rfl C7 rfl) ?_
  refine D8 rfl (E0 rfl rfl rfl) (fun hc => B6 1 rfl G8 rfl Q0 (A0 rfl) rfl) ?_
  refine D8 rfl (E0 rfl rfl rfl) (fun hc => B4 1 rfl (A8 rfl hc) rfl R7 rfl) ?_
  refine D8 rfl (E0 rfl rfl rfl) (fun hc => C4 rfl (A0 rfl)) ?_
  refine D8 rfl (E0 rfl rfl rfl) (fun hc => N1 rfl (A8 rfl hc) B5 (by first | omega | ((try simp only [A6, B0, B7, C1, B3, szR] at *); omega) | (have hc2 := hc; simp only [Bool.and_eq_true, Bool.or_eq_true, Bool.or_eq_false_iff, Bool.and_eq_false_iff, Bool.not_eq_true', Bool.not_eq_false', decide_eq_true_eq, decide_eq_false_iff_not, beq_iff_eq, bne_iff_ne, A6, B0] at hc2; omega))) ?_
  refine D8 rfl (E0 rfl rfl rfl) (fun hc => J4 rfl K2 O8 (A8 rfl hc) (A8 rfl hc) hy (by first | omega | ((try simp only [A6, B0, B7, C1, B3, szR] at *); omega) | (have hc2 := hc; simp only [Bool.and_eq_true, Bool.or_eq_true, Bool.or_eq_false_iff, Bool.and_eq_false_iff, Bool.not_eq_true', Bool.not_eq_false', decide_eq_true_eq, decide_eq_false_iff_not, beq_iff_eq, bne_iff_ne, A6, B0] at hc2; omega))) ?_
  refine D8 rfl (E0 rfl rfl rfl) (fun hc => U2 rfl P3 rfl B9 (A8 rfl hc) rfl) ?_
  refine D8 rfl (E0 rfl rfl rfl) (fun hc => L6 rfl (A8 rfl hc) C7 rfl) ?_
  refine D8 rfl (E0 rfl rfl rfl) (fun hc => S0 rfl (A8 rfl hc) (A8 rfl hc)) ?_
  refine D8 rfl (C9 rfl rfl rfl) (fun hc => G1 rfl (A8 rfl hc) (Q1 rfl hc)) ?_
  refine C2 rfl rfl (N4 rfl (A0 rfl) (E3 rfl)) ?_
  refine Q9 ?_
  refine C8 (A0 rfl) ?_ ?_
  ·intro h40
   have hfin : isCell c = false := by unfold isCell; rw [hinv.2]; cases hg : verGood x with | false => (rw [c5 hx hg]; simp) | true => (have hb : 0 < i ∧ verLess y x = false := (by unfold verGood at hg; unfold verLess; simp_all; try grind); rw [m9 hx hy hb.1 hb.2]; simp)
   refine A3 (A2 ?_)
   refine A1 rfl rfl rfl (B8 rfl F0) ?_
   refine A5 ?_
   refine C6 ?_
   exact H1 rfl (C3 rfl (by first | exact congrArg AV.bool hfin.symm | exact congrArg AV.bool (by unfold isCell; rw [hinv.2, X5 hge, Z1 hge]; simp)))
  ·intro h40
   have hg : verGood x = true ∧ (0 < i → verLess y x = true) := by unfold verGood verLess; simp_all
   refine D1 (A2 ?_)
   refine A1 rfl rfl rfl (G5 rfl (A0 rfl) B5 (by first | omega | (simp only [A6, B0, B7, C1, B3, szR] at *; omega))) ?_
   refine A4 rfl rfl rfl rfl rfl ?_
   refine A5 ?_
   refine L2 i (i + 1) ?_ ?_ (T3 1 ⟨rfl, rfl, rfl, rfl, trivial⟩)
   ·exact ⟨by omega, by rw [hinv.2, j4 hx hg.1, m8 hx hy hg.2]⟩
   ·omega
 ·intro h9
  have k9 := of_decide_eq_false h9; try simp only [A6] at k9
  have hge : c.Vers.length ≤ i := by omega
  refine H4 ?_
  refine A3 (A2 ?_)
  refine A1 rfl rfl rfl (B6 1 rfl G8 rfl Q0 (A0 rfl) rfl) ?_
  refine A1 rfl rfl rfl (B4 0 rfl (A0 rfl) rfl R7 rfl) ?_
  refine A1 rfl rfl rfl (H3 rfl K2 (A0 rfl)) ?_
  refine A1 rfl rfl rfl (D6 rfl Tryz.call94 rfl (W8 _ _ _) (A7 (A0 rfl) (A7 B5 (A7 B5 C0)))) ?_
  refine B2 rfl rfl rfl rfl rfl ?_
  refine A5 ?_
  refine C6 ?_
  exact H1 rfl (C3 rfl (by first | exact congrArg AV.bool hfin.symm | exact congrArg AV.bool (by unfold isCell; rw [hinv.2, X5 hge, Z1 hge]; simp)))
theorem Ad8 (c : TCell) (hs : c.size ≤ 4194304) : FSpec Tryz.prog 260 [AV.agg c.cs] (AV.bool (l3Cell c)) := by
 have hcl := j6 hs
 refine D9 Tryz.func260 rfl Tryz.ntmps260 rfl ?_
 refine A3 (A2 ?_)
 refine J6 rfl rfl rfl rfl (A0 rfl) ?_
 intro b1
 refine A1 rfl rfl rfl (B8 rfl F0) ?_
 refine A5 (A3 (A3 (A2 ?_)))
 refine A1 rfl rfl rfl (B6 1 rfl G8 rfl Q0 (A0 rfl) rfl) ?_
 refine A1 rfl rfl rfl (B4 0 rfl (A0 rfl) rfl R7 rfl) ?_
 refine A1 rfl rfl rfl (H3 rfl K2 (A0 rfl)) ?_
 refine A1 rfl rfl rfl (C4 rfl B5) ?_
 refine A5 (D7 ?_)
 refine J0 [(1, _), (6, _), (7, _)] _ (fun (i : Nat) => i ≤ c.Vers.length ∧ (c.Vers.all (verGoodS c.Key) && adj verLess c.Vers) = ((c.Vers.drop i).all (verGoodS c.Key) && adj verLess (c.Vers.drop (i - 1)))) (fun (i : Nat) => []) (fun (i : Nat) => [(8, AV.int i)]) (fun (i : Nat) => c.Vers.length - i) (0) ?_ (J1 ⟨rfl, rfl, rfl, rfl, trivial⟩) ?_
 ·exact ⟨Nat.zero_le _, rfl⟩
 intro i hinv
 refine A3 (A2 ?_)
 refine A1 rfl rfl rfl (J8 rfl (A0 rfl) (A0 rfl)) ?_
 refine A5 (A3 ?_)
 refine C8 (A0 rfl) ?_ ?_
 ·intro h9
  have k9 := of_decide_eq_true h9; try simp only [A6] at k9
  have hlt : i < c.Vers.length := by omega
  obtain ⟨x, hx⟩ := get_some hlt
  obtain ⟨y, hy⟩ := get_some (show i - 1 < c.Vers.length by omega)
  have hsx : x.size ≤ 4194304 := Nat.le_trans (Y1 hx) hcl.2.2
  unfold TVer.size at hsx
  refine D1 (A3 (D7 (A3 (A2 ?_))))
  refine A4 rfl rfl rfl rfl rfl ?_
  refine A1 rfl rfl rfl (J4 rfl K2 O8 (A0 rfl) (A0 rfl) hx (by first | omega | (simp only [A6, B0, B7, C1, B3, szR] at *; omega))) ?_
  refine A1 rfl rfl rfl (M7 rfl (A0 rfl) Tryz.isAgg197 O8) ?_
  refine F3 rfl rfl rfl rfl Tryz.zeroValue197 rfl ?_
  intro b4
  refine B2 rfl rfl rfl rfl rfl ?_
  refine D5 0 rfl rfl rfl (A0 rfl) (A0 rfl) (E8 _) rfl O8 rfl ?_
  refine A5 (A3 ?_)
  refine K0 (by kernel_rfl) (by kernel_rfl) rfl ?_
  refine C2 rfl rfl (B6 0 rfl P3 rfl B9 (A0 rfl) rfl) ?_
  refine C2 rfl rfl (B4 0 rfl (A0 rfl) rfl C7 rfl) ?_
  refine C2 rfl rfl (D6 rfl Tryz.call147 rfl (Z8 _) (A7 (A0 rfl) C0)) ?_
  refine C2 rfl rfl (I4 rfl (A0 rfl)) ?_
  refine C2 rfl rfl (C4 rfl (A0 rfl)) ?_
  refine D8 rfl (C9 rfl rfl rfl) (fun hc => B6 0 rfl G8 rfl F5 (A0 rfl) rfl) ?_
  refine D8 rfl (C9 rfl rfl rfl) (fun hc => B4 1 rfl (A8 rfl hc) rfl H0 rfl) ?_
  refine D8 rfl (C9 rfl rfl rfl) (fun hc => B6 1 rfl P3 rfl F5 (A0 rfl) rfl) ?_
  refine D8 rfl (C9 rfl rfl rfl) (fun hc => B4 0 rfl (A8 rfl hc) rfl H0 rfl) ?_
  refine D8 rfl (C9 rfl rfl rfl) (fun hc => B6 2 rfl P3 rfl K5 (A0 rfl) rfl) ?_
  refine D8 rfl (C9 rfl rfl rfl) (fun hc => B4 0 rfl (A8 rfl hc) rfl M6 rfl) ?_
  refine D8 rfl (C9 rfl rfl rfl) (fun hc => D6 rfl Tryz.call235 rfl (AH0 _ _ _ (by omega) (by omega)) (A7 (A8 rfl hc) (A7 (A8 rfl hc) (A7 (A8 rfl hc) C0)))) ?_
  refine D8 rfl (C9 rfl rfl rfl) (fun hc => I4 rfl (A8 rfl hc)) ?_
  refine C2 rfl rfl (N4 rfl (A0 rfl) (E3 rfl)) ?_
  refine C2 rfl rfl (C4 rfl (A0 rfl)) ?_
  refine D8 rfl (C9 rfl rfl rfl) (fun hc => C4 rfl (A0 rfl)) ?_
  refine D8 rfl (C9 rfl rfl rfl) (fun hc => O5 rfl (A8 rfl hc) B5) ?_
  refine D8 rfl (C9 rfl rfl rfl) (fun hc => C4 rfl (A8 rfl hc)) ?_
  refine D8 rfl (E0 rfl rfl rfl) (fun hc => B6 1 rfl G8 rfl Q0 (A0 rfl) rfl) ?_
  refine D8 rfl (E0 rfl rfl rfl) (fun hc => B4 1 rfl (A8 rfl hc) rfl R7 rfl) ?_
  refine D8 rfl (E0 rfl rfl rfl) (fun hc => C4 rfl (A0 rfl)) ?_
  refine D8 rfl (E0 rfl rfl rfl) (fun hc => N1 rfl (A8 rfl hc) B5 (by first | omega | ((try simp only [A6, B0, B7, C1, B3, szR] at *); omega) | (have hc2 := hc; simp only [Bool.and_eq_true, Bool.or_eq_true, Bool.or_eq_false_iff, Bool.and_eq_false_iff, Bool.not_eq_true', Bool.not_eq_false', decide_eq_true_eq, decide_eq_false_iff_not, beq_iff_eq, bne_iff_ne, A6, B0] at hc2; omega))) ?_
  refine D8 rfl (E0 rfl rfl rfl) (fun hc => J4 rfl K2 O8 (A8 rfl hc) (A8 rfl hc) hy (by first | omega | ((try simp only [A6, B0, B7, C1, B3, szR] at *); omega) | (have hc2 := hc; simp only [Bool.and_eq_true, Bool.or_eq_true, Bool.or_eq_false_iff, Bool.and_eq_false_iff, Bool.not_eq_true', Bool.not_eq_false', decide_eq_true_eq, decide_eq_false_iff_not, beq_iff_eq, bne_iff_ne, A6, B0] at hc2; omega))) ?_
  refine D8 rfl (E0 rfl rfl rfl) (fun hc => U2 rfl P3 rfl B9 (A8 rfl hc) rfl) ?_
  refine D8 rfl (E0 rfl rfl rfl) (fun hc => L6 rfl (A8 rfl hc) C7 rfl) ?_
  refine D8 rfl (E0 rfl rfl rfl) (fun hc => B6 0 rfl P3 rfl B9 (A0 rfl) rfl) ?_
  refine D8 rfl (E0 rfl rfl rfl) (fun hc => B4 0 rfl (A8 rfl hc) rfl C7 rfl) ?_
  refine D8 rfl (E0 rfl rfl rfl) (fun hc => X4 rfl (A8 rfl hc) (A8 rfl hc)) ?_
  refine D8 rfl (C9 rfl rfl rfl) (fun hc => G1 rfl (A8 rfl hc) (Q1 rfl hc)) ?_
  refine C2 rfl rfl (N4 rfl (A0 rfl) (E3 rfl)) ?_
  refine Q9 ?_
  refine C8 (A0 rfl) ?_ ?_
  ·intro h42
   have hfin : l3Cell c = false := by unfold l3Cell; rw [hinv.2]; cases hg : verGoodS c.Key x with | false => (rw [c5 hx hg]; simp) | true => (have hb : 0 < i ∧ verLess y x = false := (by unfold verGoodS at hg; unfold verLess; simp_all; try grind); rw [m9 hx hy hb.1 hb.2]; simp)
   refine A3 (A2 ?_)
   refine A1 rfl rfl rfl (B8 rfl F0) ?_
   refine A5 ?_
   refine C6 ?_
   exact H1 rfl (C3 rfl (by first | exact congrArg AV.bool hfin.symm | exact congrArg AV.bool (by unfold l3Cell; rw [hinv.2, X5 hge, Z1 hge]; simp)))
  ·intro h42
   have hg : verGoodS c.Key x = true ∧ (0 < i → verLess y x = true) := by unfold verGoodS verLess; simp_all
   refine D1 (A2 ?_)
   refine A1 rfl rfl rfl (G5 rfl (A0 rfl) B5 (by first | omega | (simp only [A6, B0, B7, C1, B3, szR] at *; omega))) ?_
   refine A4 rfl rfl rfl rfl rfl ?_
   refine A5 ?_
   refine L2 i (i + 1) ?_ ?_ (T3 1 ⟨rfl, rfl, rfl, rfl, trivial⟩)
   ·exact ⟨by omega, by rw [hinv.2, j4 hx hg.1, m8 hx hy hg.2]⟩
   ·omega
 ·intro h9
  have k9 := of_decide_eq_false h9; try simp only [A6] at k9
  have hge : c.Vers.length ≤ i := by omega
  refine H4 ?_
  refine A3 (A2 ?_)
  refine A1 rfl rfl rfl (B6 0 rfl G8 rfl F5 (A0 rfl) rfl) ?_
  refine A1 rfl rfl rfl (B4 0 rfl (A0 rfl) rfl H0 rfl) ?_
  refine A1 rfl rfl rfl (D6 rfl Tryz.call119 rfl (q9 _ (by omega)) (A7 (A0 rfl) C0)) ?_
  refine A4 rfl rfl rfl rfl rfl ?_
  refine A9 rfl rfl (B1 rfl rfl rfl) (fun hc => B6 1 rfl G8 rfl Q0 (A0 rfl) rfl) ?_
  refine A9 rfl rfl (B1 rfl rfl rfl) (fun hc => B4 0 rfl (A8 rfl hc) rfl R7 rfl) ?_
  refine A9 rfl rfl (B1 rfl rfl rfl) (fun hc => H3 rfl K2 (A8 rfl hc)) ?_
  refine A9 rfl rfl (B1 rfl rfl rfl) (fun hc => D6 rfl Tryz.call137 rfl (T8 _ _ _) (A7 (A8 rfl hc) (A7 B5 (A7 B5 C0)))) ?_
  refine A1 rfl rfl rfl (G1 rfl (A0 rfl) (E3 rfl)) ?_
  refine B2 rfl rfl rfl rfl rfl ?_
  refine A5 ?_
  refine C6 ?_
  exact H1 rfl (C3 rfl (by first | exact congrArg AV.bool hfin.symm | exact congrArg AV.bool (by unfold l3Cell; rw [hinv.2, X5 hge, Z1 hge]; simp)))
theorem AR6 (l : List TCell) (hs : sizeL TCell.size l ≤ 4194304) : FSpec Tryz.prog 91 [AV.list 2 (l.map TCell.cs)] (AV.bool (goodCells l)) := by
 have hl : l.length ≤ 4194304 := Nat.le_trans P5 hs
 have hks : ∀ k ∈ cKeys l, k.length ≤ 4611686018427387904 := fun k hk => by
  obtain ⟨w, hw, rfl⟩ := List.mem_map.1 hk
  have := j6 (Nat.le_trans (o9 hw) hs)
  omega
 refine D9 Tryz.func91 rfl Tryz.ntmps91 rfl ?_
 refine A3 (A2 ?_)
 refine A1 rfl rfl rfl (B8 rfl F0) ?_
 refine A5 (A3 (A2 ?_))
 refine U4 rfl rfl rfl rfl E2 F5 ?_
 intro v6
 refine B2 rfl rfl rfl rfl rfl ?_
 refine A5 (A3 (A3 (A2 ?_)))
 refine A4 rfl rfl rfl rfl rfl ?_
 refine A1 rfl rfl rfl (H3 rfl F2 (A0 rfl)) ?_
 refine A1 rfl rfl rfl (C4 rfl B5) ?_
 refine A5 (D7 ?_)
 refine T5 [(0, _), (7, _), (8, _)] _ (fun (i : Nat) (v : Value) => i ≤ l.length ∧ l.all isCell = (l.drop i).all isCell) (fun (i : Nat) (v : Value) => [.arr v 9 1 ((l.take i).map fun w => [AV.str w.Key])]) (fun (i : Nat) (v : Value) => [(3, AV.is v), (9, AV.int i)]) (fun (i : Nat) (v : Value) => l.length - i) (0) (v6) ?_ (S7 (by rfl) ⟨rfl, rfl, rfl, rfl, rfl, trivial⟩) ?_
 ·exact ⟨Nat.zero_le _, rfl⟩
 intro i v hinv
 refine A3 (A2 ?_)
 refine A1 rfl rfl rfl (J8 rfl (A0 rfl) (A0 rfl)) ?_
 refine A5 (A3 ?_)
 refine C8 (A0 rfl) ?_ ?_
 ·intro h10
  have k10 := of_decide_eq_true h10; try simp only [A6] at k10
  have hlt : i < l.length := by omega
  obtain ⟨x, hx⟩ := get_some hlt
  have hsx : x.size ≤ 4194304 := Nat.le_trans (Y1 hx) hs
  refine D1 (A3 (D7 (A3 (A2 ?_))))
  refine A1 rfl rfl rfl (J4 rfl F2 G2 (A0 rfl) (A0 rfl) hx (by first | omega | (simp only [A6, B0, B7, C1, B3, szR] at *; omega))) ?_
  refine A1 rfl rfl rfl (M7 rfl (A0 rfl) S6 G2) ?_
  refine F3 rfl rfl rfl rfl Tryz.zeroValue142 rfl ?_
  intro b5
  refine D5 0 rfl rfl rfl (A0 rfl) (A0 rfl) (E8 _) rfl G2 rfl ?_
  refine A5 (A3 (A3 (A2 ?_)))
  refine A1 rfl rfl rfl (E4 0 rfl (A0 rfl) rfl S6 G2 rfl) ?_
  refine A1 rfl rfl rfl (D6 rfl Tryz.call181 rfl (Ad7 _ (by first | assumption | omega)) (A7 (A0 rfl) C0)) ?_
  refine A1 rfl rfl rfl (I4 rfl (A0 rfl)) ?_
  refine A5 ?_
  refine C8 (A0 rfl) ?_ ?_
  ·intro h15
   refine A3 (A2 ?_)
   refine A1 rfl rfl rfl (B8 rfl F0) ?_
   refine A5 ?_
   refine C6 ?_
   exact H1 rfl (C3 rfl (by first | exact congrArg AV.bool (by unfold goodCells; rw [hinv.2, c5 hx (by simpa using h15)]; rfl) | exact congrArg AV.bool (by unfold goodCells; rw [hinv.2, X5 hge, A6]; simp)))
  ·intro h15
   refine D1 (A2 ?_)
   refine A4 rfl rfl rfl rfl rfl ?_
   refine A1 rfl rfl rfl (B6 0 rfl G8 rfl F5 (A0 rfl) rfl) ?_
   refine A1 rfl rfl rfl (B4 0 rfl (A0 rfl) rfl H0 rfl) ?_
   refine A1 rfl rfl rfl (M3 rfl E2 F5 Tryz.zeroValue9 rfl rfl rfl rfl (E7 (A0 rfl) (P4 _) I6) rfl rfl) ?_
   refine M9 (by' := 16) 1 rfl rfl rfl rfl E2 Tryz.type9 rfl rfl rfl rfl rfl rfl (A0 rfl) (A0 rfl) rfl (by first | omega | (simp only [A6, B0, B7, C1, B3, szR] at *; omega)) ?_
   intro v20_1
   refine B2 rfl rfl rfl rfl rfl ?_
   refine A5 (A2 ?_)
   refine A1 rfl rfl rfl (G5 rfl (A0 rfl) B5 (by first | omega | (simp only [A6, B0, B7, C1, B3, szR] at *; omega))) ?_
   refine A4 rfl rfl rfl rfl rfl ?_
   refine A5 ?_
   refine S5 i v (i + 1) (v20_1) ?_ ?_ (N0 1 (by exact congrArg (fun z => [Own.arr v20_1 9 1 z]) (c7 (f := fun w : TCell => [AV.str w.Key]) hx)) ⟨rfl, rfl, rfl, rfl, rfl, trivial⟩)
   ·exact ⟨by omega, by rw [hinv.2, j4 hx (by simpa using h15)]⟩
   ·omega
 ·intro h10
  have k10 := of_decide_eq_false h10; try simp only [A6] at k10
  have hge : l.length ≤ i := by omega
  rw [List.take_of_length_le hge, show (l.map fun w => [AV.str w.Key]) = (cKeys l).map (fun k => [AV.str k]) from by unfold cKeys; rw [List.map_map]; rfl]
  refine H4 ?_
  refine A3 (A2 ?_)
  refine A4 rfl rfl rfl rfl rfl ?_
  refine A1 rfl rfl rfl (H3 rfl F2 (A0 rfl)) ?_
  refine A1 rfl rfl rfl (S0 rfl (A0 rfl) B5) ?_
  refine A4 rfl rfl rfl rfl rfl ?_
  refine A9 rfl rfl (B1 rfl rfl rfl) (fun hc => C4 rfl (A0 rfl)) ?_
  refine A9 rfl rfl (B1 rfl rfl rfl) (fun hc => j8 rfl Tryz.call155 rfl (n2 (cKeys l) hks) (F7 _) (S1 (Af6 0 (A8 rfl hc) rfl) Z6)) ?_
  refine A1 rfl rfl rfl (G1 rfl (A0 rfl) (E3 rfl)) ?_
  refine B2 rfl rfl rfl rfl rfl ?_
  refine A5 ?_
  refine C6 ?_
  exact H1 rfl (C3 rfl (by first | exact congrArg AV.bool (by unfold goodCells; rw [hinv.2, c5 hx (by simpa using h15)]; rfl) | exact congrArg AV.bool (by unfold goodCells; rw [hinv.2, X5 hge, A6]; simp)))
theorem AJ9 (l : List TCell) (hs : sizeL TCell.size l ≤ 4194304) : FSpec Tryz.prog 201 [AV.list 2 (l.map TCell.cs)] (AV.bool (l3Good l)) := by
 refine D9 Tryz.func201 rfl Tryz.ntmps201 rfl ?_
 refine S4 (t := 0) rfl fun hl => ?_
 try simp only [A6] at hl
 refine A3 (A2 ?_)
 refine A1 rfl rfl rfl (B8 rfl F0) ?_
 refine A5 (A3 (A3 (A2 ?_)))
 refine A4 rfl rfl rfl rfl rfl ?_
 refine A1 rfl rfl rfl (H3 rfl F2 (A0 rfl)) ?_
 refine A1 rfl rfl rfl (C4 rfl B5) ?_
 refine A5 (D7 ?_)
 refine J0 [(0, _), (5, _), (6, _)] _ (fun (i : Nat) => i ≤ l.length ∧ (l.all l3Cell && adj cLess l) = ((l.drop i).all l3Cell && adj cLess (l.drop (i - 1)))) (fun (i : Nat) => []) (fun (i : Nat) => [(7, AV.int i)]) (fun (i : Nat) => l.length - i) (0) ?_ (J1 ⟨rfl, rfl, rfl, rfl, trivial⟩) ?_
 ·exact ⟨Nat.zero_le _, rfl⟩
 intro i hinv
 refine A3 (A2 ?_)
 refine A1 rfl rfl rfl (J8 rfl (A0 rfl) (A0 rfl)) ?_
 refine A5 (A3 ?_)
 refine C8 (A0 rfl) ?_ ?_
 ·intro h8
  have k8 := of_decide_eq_true h8; try simp only [A6] at k8
  have hlt : i < l.length := by omega
  obtain ⟨x, hx⟩ := get_some hlt
  obtain ⟨y, hy⟩ := get_some (show i - 1 < l.length by omega)
  have hsx : x.size ≤ 4194304 := Nat.le_trans (Y1 hx) hs
  refine D1 (A3 (D7 (A3 (A2 ?_))))
  refine A4 rfl rfl rfl rfl rfl ?_
  refine A1 rfl rfl rfl (J4 rfl F2 G2 (A0 rfl) (A0 rfl) hx (by first | omega | (simp only [A6, B0, B7, C1, B3, szR] at *; omega))) ?_
  refine A1 rfl rfl rfl (M7 rfl (A0 rfl) S6 G2) ?_
  refine F3 rfl rfl rfl rfl Tryz.zeroValue142 rfl ?_
  intro b4
  refine B2 rfl rfl rfl rfl rfl ?_
  refine D5 0 rfl rfl rfl (A0 rfl) (A0 rfl) (E8 _) rfl G2 rfl ?_
  refine A5 (A3 ?_)
  refine K0 (by kernel_rfl) (by kernel_rfl) rfl ?_
  refine C2 rfl rfl (E4 0 rfl (A0 rfl) rfl S6 G2 rfl) ?_
  refine C2 rfl rfl (D6 rfl Tryz.call260 rfl (Ad8 _ (by first | assumption | omega)) (A7 (A0 rfl) C0)) ?_
  refine C2 rfl rfl (I4 rfl (A0 rfl)) ?_
  refine C2 rfl rfl (C4 rfl (A0 rfl)) ?_
  refine D8 rfl (C9 rfl rfl rfl) (fun hc => C4 rfl (A0 rfl)) ?_
  refine D8 rfl (C9 rfl rfl rfl) (fun hc => O5 rfl (A8 rfl hc) B5) ?_
  refine D8 rfl (C9 rfl rfl rfl) (fun hc => C4 rfl (A8 rfl hc)) ?_
  refine D8 rfl (E0 rfl rfl rfl) (fun hc => C4 rfl (A0 rfl)) ?_
  refine D8 rfl (E0 rfl rfl rfl) (fun hc => C4 rfl (A0 rfl)) ?_
  refine D8 rfl (E0 rfl rfl rfl) (fun hc => N1 rfl (A8 rfl hc) B5 (by first | omega | ((try simp only [A6, B0, B7, C1, B3, szR] at *); omega) | (have hc2 := hc; simp only [Bool.and_eq_true, Bool.or_eq_true, Bool.or_eq_false_iff, Bool.and_eq_false_iff, Bool.not_eq_true', Bool.not_eq_false', decide_eq_true_eq, decide_eq_false_iff_not, beq_iff_eq, bne_iff_ne, A6, B0] at hc2; omega))) ?_
  refine D8 rfl (E0 rfl rfl rfl) (fun hc => J4 rfl F2 G2 (A8 rfl hc) (A8 rfl hc) hy (by first | omega | ((try simp only [A6, B0, B7, C1, B3, szR] at *); omega) | (have hc2 := hc; simp only [Bool.and_eq_true, Bool.or_eq_true, Bool.or_eq_false_iff, Bool.and_eq_false_iff, Bool.not_eq_true', Bool.not_eq_false', decide_eq_true_eq, decide_eq_false_iff_not, beq_iff_eq, bne_iff_ne, A6, B0] at hc2; omega))) ?_
  refine D8 rfl (E0 rfl rfl rfl) (fun hc => U2 rfl G8 rfl F5 (A8 rfl hc) rfl) ?_
  refine D8 rfl (E0 rfl rfl rfl) (fun hc => L6 rfl (A8 rfl hc) H0 rfl) ?_
  refine D8 rfl (E0 rfl rfl rfl) (fun hc => B6 0 rfl G8 rfl F5 (A0 rfl) rfl) ?_
  refine D8 rfl (E0 rfl rfl rfl) (fun hc => B4 0 rfl (A8 rfl hc) rfl H0 rfl) ?_
  refine D8 rfl (E0 rfl rfl rfl) (fun hc => AY9 rfl (A8 rfl hc) (A8 rfl hc)) ?_
  refine D8 rfl (C9 rfl rfl rfl) (fun hc => G1 rfl (A8 rfl hc) (Q1 rfl hc)) ?_
  refine C2 rfl rfl (N4 rfl (A0 rfl) (E3 rfl)) ?_
  refine Q9 ?_
  refine C8 (A0 rfl) ?_ ?_
  ·intro h29
   have hfin : l3Good l = false := by unfold l3Good; rw [hinv.2]; cases hg : l3Cell x with | false => (rw [c5 hx hg]; simp) | true => (have hb : 0 < i ∧ cLess y x = false := (by unfold cLess; simp_all; try grind); rw [m9 hx hy hb.1 hb.2]; simp)
   refine A3 (A2 ?_)
   refine A1 rfl rfl rfl (B8 rfl F0) ?_
   refine A5 ?_
   refine C6 ?_
   exact H1 rfl (C3 rfl (by first | exact congrArg AV.bool hfin.symm | exact congrArg AV.bool (by unfold l3Good; rw [hinv.2, X5 hge, Z1 hge, A6]; simp)))
  ·intro h29
   have hg : l3Cell x = true ∧ (0 < i → cLess y x = true) := by unfold cLess; simp_all
   refine D1 (A2 ?_)
   refine A1 rfl rfl rfl (G5 rfl (A0 rfl) B5 (by first | omega | (simp only [A6, B0, B7, C1, B3, szR] at *; omega))) ?_
   refine A4 rfl rfl rfl rfl rfl ?_
   refine A5 ?_
   refine L2 i (i + 1) ?_ ?_ (T3 1 ⟨rfl, rfl, rfl, rfl, trivial⟩)
   ·exact ⟨by omega, by rw [hinv.2, j4 hx hg.1, m8 hx hy hg.2]⟩
   ·omega
 ·intro h8
  have k8 := of_decide_eq_false h8; try simp only [A6] at k8
  have hge : l.length ≤ i := by omega
  refine H4 ?_
  refine A3 (A2 ?_)
  refine A4 rfl rfl rfl rfl rfl ?_
  refine A1 rfl rfl rfl (H3 rfl F2 (A0 rfl)) ?_
  refine A1 rfl rfl rfl (S0 rfl (A0 rfl) B5) ?_
  refine B2 rfl rfl rfl rfl rfl ?_
  refine A5 ?_
  refine C6 ?_
  exact H1 rfl (C3 rfl (by first | exact congrArg AV.bool hfin.symm | exact congrArg AV.bool (by unfold l3Good; rw [hinv.2, X5 hge, Z1 hge, A6]; simp)))
theorem AR7 (c : TCell) (k : Str) : FSpec Tryz.prog 249 [AV.agg c.cs, AV.str k] (AV.int (cCmp k c)) := by
 refine D9 Tryz.func249 rfl Tryz.ntmps249 rfl ?_
 refine A3 (A2 ?_)
 refine J6 rfl rfl rfl rfl (A0 rfl) ?_
 intro b2
 refine A1 rfl rfl rfl (B8 rfl B5) ?_
 refine A5 (A3 (A2 ?_))
 refine A1 rfl rfl rfl (B6 0 rfl G8 rfl F5 (A0 rfl) rfl) ?_
 refine A1 rfl rfl rfl (B4 0 rfl (A0 rfl) rfl H0 rfl) ?_
 refine A4 rfl rfl rfl rfl rfl ?_
 refine A1 rfl rfl rfl (D6 rfl Tryz.call250 rfl (AJ8 _ _) (A7 (A0 rfl) (A7 (A0 rfl) C0))) ?_
 refine B2 rfl rfl rfl rfl rfl ?_
 refine A5 ?_
 refine C6 ?_
 exact H1 rfl (C3 rfl (by first | rfl | (refine congrArg AV.bool ?_; simp_all; done)))
theorem AD9 (l : List TCell) (k : Str) (hs : l.length ≤ 4611686018427387903) : FSpec Tryz.prog 189 [AV.list 2 (l.map TCell.cs), AV.str k] (AV.tup [AV.int (cPos l k), AV.bool (cHas l k)]) := by
 refine D9 Tryz.func189 rfl Tryz.ntmps189 rfl ?_
 refine A3 (A2 ?_)
 refine A1 rfl rfl rfl (B8 rfl B5) ?_
 refine A1 rfl rfl rfl (B8 rfl F0) ?_
 refine A5 (A3 (A2 ?_))
 refine A4 rfl rfl rfl rfl rfl ?_
 refine A4 rfl rfl rfl rfl rfl ?_
 refine A1 rfl rfl rfl (D6 rfl Tryz.call248 rfl (AA4 _ _ _ (by first | (intros; trivial) | assumption | (intros; first | trivial | (simp_all; done))) _ (by omega)) (A7 (A0 rfl) (A7 (A0 rfl) (A7 (AQ7 Tryz.call249 (fun c k (_ : True) => AR7 c k)) C0)))) ?_
 refine A1 rfl rfl rfl (D0 rfl (A0 rfl) rfl) ?_
 refine A1 rfl rfl rfl (D0 rfl (A0 rfl) rfl) ?_
 refine B2 rfl rfl rfl rfl rfl ?_
 refine B2 rfl rfl rfl rfl rfl ?_
 refine A5 ?_
 refine C6 ?_
 exact R5 rfl (by decide) (E6 (C3 rfl (by first | rfl | (refine congrArg AV.bool ?_; simp_all; done))) (E6 (C3 rfl (by first | rfl | (refine congrArg AV.bool ?_; simp_all; done))) I8))
theorem AV1 {c : TCell} (h : 1 ≤ c.Vers.length) : ∃ v, c.Vers[c.Vers.length - 1]? = some v ∧ lastV c = v.Time := by
  obtain ⟨v, hv⟩ := get_some (show c.Vers.length - 1 < c.Vers.length by omega)
  refine ⟨v, hv, ?_⟩
  unfold lastV; rw [List.getLast?_eq_getElem?, hv]
theorem AE0 (l : List TCell) (k : Str) (ho : CellsOk l) (hs : sizeL TCell.size l ≤ 4194304) : FSpec Tryz.prog 93 [AV.list 2 (l.map TCell.cs), AV.str k] (AV.int (lastTime l k)) := by
 have hl : l.length ≤ 4194304 := Nat.le_trans P5 hs
 refine D9 Tryz.func93 rfl Tryz.ntmps93 rfl ?_
 refine A3 (A2 ?_)
 refine A1 rfl rfl rfl (B8 rfl B5) ?_
 refine A5 (A3 (A2 ?_))
 refine A4 rfl rfl rfl rfl rfl ?_
 refine A4 rfl rfl rfl rfl rfl ?_
 refine A1 rfl rfl rfl (D6 rfl Tryz.call189 rfl (AD9 _ _ (by first | assumption | omega)) (A7 (A0 rfl) (A7 (A0 rfl) C0))) ?_
 refine A4 rfl rfl rfl rfl rfl ?_
 refine A1 rfl rfl rfl (D0 rfl (A0 rfl) rfl) ?_
 refine A1 rfl rfl rfl (D0 rfl (A0 rfl) rfl) ?_
 refine B2 rfl rfl rfl rfl rfl ?_
 refine B2 rfl rfl rfl rfl rfl ?_
 refine A5 (A3 (A3 (A2 ?_)))
 refine A4 rfl rfl rfl rfl rfl ?_
 refine A1 rfl rfl rfl (I4 rfl (A0 rfl)) ?_
 refine A5 ?_
 refine C8 (A0 rfl) ?_ ?_
 ·intro h14
  have hn : cHas l k = false := by simpa using h14
  have he : lastTime l k = 0 := by unfold lastTime; rw [AM4 ho.1, hn]; rfl
  rw [he]
  refine A3 (A2 ?_)
  refine A1 rfl rfl rfl (B8 rfl B5) ?_
  refine A5 ?_
  refine C6 ?_
  exact H1 rfl (C3 rfl (by first | rfl | (refine congrArg AV.bool ?_; simp_all; done)))
 ·intro h14
  have hn : cHas l k = true := by simpa using h14
  obtain ⟨c, hc, hck⟩ := AC3.1 hn
  obtain ⟨v, hv, hlv⟩ := AV1 (ho.2 c (G6 hc))
  have hcl := j6 (Nat.le_trans (Y1 hc) hs)
  have hc1 := ho.2 c (G6 hc)
  have he : lastTime l k = v.Time := by unfold lastTime; rw [AM4 ho.1, hn, if_pos rfl, hc]; exact hlv
  rw [he]
  refine D1 (A3 ?_)
  refine K0 (by kernel_rfl) (by kernel_rfl) rfl ?_
  refine C2 rfl rfl (C4 rfl (A0 rfl)) ?_
  refine C2 rfl rfl (C4 rfl (A0 rfl)) ?_
  refine C2 rfl rfl (J4 rfl F2 G2 (A0 rfl) (A0 rfl) hc (by first | omega | (simp only [A6, B0, B7, C1, B3, szR] at *; omega))) ?_
  refine C2 rfl rfl (U2 rfl G8 rfl Q0 (A0 rfl) rfl) ?_
  refine C2 rfl rfl (L6 rfl (A0 rfl) R7 rfl) ?_
  refine C2 rfl rfl (C4 rfl (A0 rfl)) ?_
  refine C2 rfl rfl (C4 rfl (A0 rfl)) ?_
  refine C2 rfl rfl (J4 rfl F2 G2 (A0 rfl) (A0 rfl) hc (by first | omega | (simp only [A6, B0, B7, C1, B3, szR] at *; omega))) ?_
  refine C2 rfl rfl (U2 rfl G8 rfl Q0 (A0 rfl) rfl) ?_
  refine C2 rfl rfl (L6 rfl (A0 rfl) R7 rfl) ?_
  refine C2 rfl rfl (H3 rfl K2 (A0 rfl)) ?_
  refine C2 rfl rfl (N1 rfl (A0 rfl) B5 (by first | omega | (simp only [A6, B0, B7, C1, B3, szR] at *; omega))) ?_
  refine C2 rfl rfl (J4 rfl K2 O8 (A0 rfl) (A0 rfl) hv (by first | omega | (simp only [A6, B0, B7, C1, B3, szR] at *; omega))) ?_
  refine C2 rfl rfl (U2 rfl P3 rfl B9 (A0 rfl) rfl) ?_
  refine C2 rfl rfl (L6 rfl (A0 rfl) C7 rfl) ?_
  refine C2 rfl rfl (B8 rfl (A0 rfl)) ?_
  refine Q9 ?_
  refine C6 ?_
  exact H1 rfl (C3 rfl (by first | rfl | (refine congrArg AV.bool ?_; simp_all; done)))
theorem AV2 (l : List TCell) (k : Str) : FSpec Tryz.prog 261 [AV.list 2 (l.map TCell.cs), AV.str k] (AV.int (atC l k)) := by
 refine D9 Tryz.func261 rfl Tryz.ntmps261 rfl ?_
 refine S4 (t := 0) rfl fun hl => ?_
 try simp only [A6] at hl
 refine A3 (A2 ?_)
 refine A1 rfl rfl rfl (B8 rfl B5) ?_
 refine A5 (A3 (A3 (A2 ?_)))
 refine A4 rfl rfl rfl rfl rfl ?_
 refine A1 rfl rfl rfl (H3 rfl F2 (A0 rfl)) ?_
 refine A1 rfl rfl rfl (C4 rfl B5) ?_
 refine A5 (D7 ?_)
 refine J0 [(1, _), (7, _), (8, _)] _ (fun (i : Nat) => i ≤ l.length ∧ ∀ j x, j < i → l[j]? = some x → x.Key ≠ k) (fun (i : Nat) => []) (fun (i : Nat) => [(9, AV.int i)]) (fun (i : Nat) => l.length - i) (0) ?_ (J1 ⟨rfl, rfl, rfl, rfl, trivial⟩) ?_
 ·exact ⟨Nat.zero_le _, fun j x h => by omega⟩
 intro i hinv
 refine A3 (A2 ?_)
 refine A1 rfl rfl rfl (J8 rfl (A0 rfl) (A0 rfl)) ?_
 refine A5 (A3 ?_)
 refine C8 (A0 rfl) ?_ ?_
 ·intro h10
  have k10 := of_decide_eq_true h10; try simp only [A6] at k10
  have hlt : i < l.length := by omega
  obtain ⟨x, hx⟩ := get_some hlt
  refine D1 (A3 (D7 (A3 (A2 ?_))))
  refine A4 rfl rfl rfl rfl rfl ?_
  refine A1 rfl rfl rfl (J4 rfl F2 G2 (A0 rfl) (A0 rfl) hx (by first | omega | (simp only [A6, B0, B7, C1, B3, szR] at *; omega))) ?_
  refine A1 rfl rfl rfl (M7 rfl (A0 rfl) S6 G2) ?_
  refine F3 rfl rfl rfl rfl Tryz.zeroValue142 rfl ?_
  intro b6
  refine B2 rfl rfl rfl rfl rfl ?_
  refine D5 0 rfl rfl rfl (A0 rfl) (A0 rfl) (E8 _) rfl G2 rfl ?_
  refine A5 (A3 (A2 ?_))
  refine A1 rfl rfl rfl (B6 0 rfl G8 rfl F5 (A0 rfl) rfl) ?_
  refine A1 rfl rfl rfl (B4 0 rfl (A0 rfl) rfl H0 rfl) ?_
  refine A4 rfl rfl rfl rfl rfl ?_
  refine A1 rfl rfl rfl (o6 rfl (A0 rfl) (A0 rfl)) ?_
  refine A5 ?_
  refine C8 (A0 rfl) ?_ ?_
  ·intro h17
   refine A3 (A2 ?_)
   refine A4 rfl rfl rfl rfl rfl ?_
   refine B2 rfl rfl rfl rfl rfl ?_
   refine A5 ?_
   refine C6 ?_
   exact H1 rfl (C3 rfl (by first | exact congrArg AV.int (AZ7 hx (by simpa using h17) hinv.2).symm | exact congrArg AV.int (AZ8 fun j x hx => hinv.2 j x (Nat.lt_of_lt_of_le (List.getElem?_eq_some_iff.1 hx).1 hge) hx).symm))
  ·intro h17
   refine D1 (A2 ?_)
   refine A1 rfl rfl rfl (G5 rfl (A0 rfl) B5 (by first | omega | (simp only [A6, B0, B7, C1, B3, szR] at *; omega))) ?_
   refine A4 rfl rfl rfl rfl rfl ?_
   refine A5 ?_
   refine L2 i (i + 1) ?_ ?_ (T3 1 ⟨rfl, rfl, rfl, rfl, trivial⟩)
   ·exact ⟨by omega, fun j y hj hy => if hji : j < i then hinv.2 j y hji hy else (by have e : j = i := (by omega); subst e; rw [hx] at hy; injection hy with hy; subst hy; simpa using h17)⟩
   ·omega
 ·intro h10
  have k10 := of_decide_eq_false h10; try simp only [A6] at k10
  have hge : l.length ≤ i := by omega
  refine H4 ?_
  refine A3 (A2 ?_)
  refine A1 rfl rfl rfl (B8 rfl B5) ?_
  refine A5 ?_
  refine C6 ?_
  exact H1 rfl (C3 rfl (by first | exact congrArg AV.int (AZ7 hx (by simpa using h17) hinv.2).symm | exact congrArg AV.int (AZ8 fun j x hx => hinv.2 j x (Nat.lt_of_lt_of_le (List.getElem?_eq_some_iff.1 hx).1 hge) hx).symm))
theorem y8 (l : List TCell) (k : Str) (ho : CellsOk l) (hs : sizeL TCell.size l ≤ 4194304) : FSpec Tryz.prog 203 [AV.list 2 (l.map TCell.cs), AV.str k] (AV.int (lastTime l k)) := by
 have hl : l.length ≤ 4194304 := Nat.le_trans P5 hs
 refine D9 Tryz.func203 rfl Tryz.ntmps203 rfl ?_
 refine A3 (A2 ?_)
 refine A1 rfl rfl rfl (B8 rfl B5) ?_
 refine A5 (A3 (A2 ?_))
 refine A4 rfl rfl rfl rfl rfl ?_
 refine A4 rfl rfl rfl rfl rfl ?_
 refine A1 rfl rfl rfl (D6 rfl Tryz.call261 rfl (AV2 _ _) (A7 (A0 rfl) (A7 (A0 rfl) C0))) ?_
 refine B2 rfl rfl rfl rfl rfl ?_
 refine A5 (A3 (A3 (A2 ?_)))
 refine A4 rfl rfl rfl rfl rfl ?_
 refine A1 rfl rfl rfl (J8 rfl (A0 rfl) B5) ?_
 refine A5 ?_
 refine C8 (A0 rfl) ?_ ?_
 ·intro h10
  have k10 := of_decide_eq_true h10; try simp only [A6] at k10
  have hn : findC l k = none := Ag2 k10
  have he : lastTime l k = 0 := by unfold lastTime; rw [hn]
  rw [he]
  refine A3 (A2 ?_)
  refine A1 rfl rfl rfl (B8 rfl B5) ?_
  refine A5 ?_
  refine C6 ?_
  exact H1 rfl (C3 rfl (by first | rfl | (refine congrArg AV.bool ?_; simp_all; done)))
 ·intro h10
  have k10 := of_decide_eq_false h10; try simp only [A6] at k10
  obtain ⟨p, c, hp, hc, hf⟩ := Ag3 k10
  rw [hp]
  obtain ⟨v, hv, hlv⟩ := AV1 (ho.2 c (G6 hc))
  have hcl := j6 (Nat.le_trans (Y1 hc) hs)
  have hc1 := ho.2 c (G6 hc)
  have he : lastTime l k = v.Time := by unfold lastTime; rw [hf]; exact hlv
  rw [he]
  refine D1 (A3 ?_)
  refine K0 (by kernel_rfl) (by kernel_rfl) rfl ?_
  refine C2 rfl rfl (C4 rfl (A0 rfl)) ?_
  refine C2 rfl rfl (C4 rfl (A0 rfl)) ?_
  refine C2 rfl rfl (J4 rfl F2 G2 (A0 rfl) (A0 rfl) hc (by first | omega | (simp only [A6, B0, B7, C1, B3, szR] at *; omega))) ?_
  refine C2 rfl rfl (U2 rfl G8 rfl Q0 (A0 rfl) rfl) ?_
  refine C2 rfl rfl (L6 rfl (A0 rfl) R7 rfl) ?_
  refine C2 rfl rfl (C4 rfl (A0 rfl)) ?_
  refine C2 rfl rfl (C4 rfl (A0 rfl)) ?_
  refine C2 rfl rfl (J4 rfl F2 G2 (A0 rfl) (A0 rfl) hc (by first | omega | (simp only [A6, B0, B7, C1, B3, szR] at *; omega))) ?_
  refine C2 rfl rfl (U2 rfl G8 rfl Q0 (A0 rfl) rfl) ?_
  refine C2 rfl rfl (L6 rfl (A0 rfl) R7 rfl) ?_
  refine C2 rfl rfl (H3 rfl K2 (A0 rfl)) ?_
  refine C2 rfl rfl (N1 rfl (A0 rfl) B5 (by first | omega | (simp only [A6, B0, B7, C1, B3, szR] at *; omega))) ?_
  refine C2 rfl rfl (J4 rfl K2 O8 (A0 rfl) (A0 rfl) hv (by first | omega | (simp only [A6, B0, B7, C1, B3, szR] at *; omega))) ?_
  refine C2 rfl rfl (U2 rfl P3 rfl B9 (A0 rfl) rfl) ?_
  refine C2 rfl rfl (L6 rfl (A0 rfl) C7 rfl) ?_
  refine C2 rfl rfl (B8 rfl (A0 rfl)) ?_
  refine Q9 ?_
  refine C6 ?_
  exact H1 rfl (C3 rfl (by first | rfl | (refine congrArg AV.bool ?_; simp_all; done)))
end Go.Proofs.YtnlhbdkcgaeimaaGreat

set_option linter.unusedVariables false
set_option linter.unusedSimpArgs false
namespace Go.AV
section
variable {P : Program} {G : Nat → Prop} {n : Nat} {own : List Own} {o : Oper}
theorem Am6 {rest : List Own} : ∀ b, (fun _ : Nat => False) b → b ∈ rest.filterMap Own.blk := fun _ h => h.elim
theorem S8 {rest : List Own} : ∀ b, blksOf [] b → b ∈ rest.filterMap Own.blk := fun _ ⟨_, h, _⟩ => by simp at h
theorem R8 {q q' : Own} {ow rest : List Own} (i : Nat) (h : rest[i]? = some q') (hb : Own.blk q = Own.blk q') (k : ∀ b, blksOf ow b → b ∈ rest.filterMap Own.blk) : ∀ b, blksOf (q :: ow) b → b ∈ rest.filterMap Own.blk := fun b ⟨x, hx, hxb⟩ => by
  rcases List.mem_cons.1 hx with rfl | hx
  · exact List.mem_filterMap.2 ⟨q', G6 h, hb ▸ hxb⟩
  · exact k b ⟨x, hx, hxb⟩
theorem AC9 {sel rest : List Own} {w0 : World} {R0 R : RHeap} {w : World} (h : Core G w0 R0 (sel ++ rest) R w) (hG : ∀ b, G b → b ∈ rest.filterMap Own.blk) : Core G w0 R0 rest (lend sel w R) w := by
  have hl := T1 h
  refine ⟨h.os, h.tape, h.output, h.size, h.block, AI3 hl, fun b hb => ?_, fun q hq => ?_, fun q hq => h.fresh q (List.mem_append_right _ hq), (AB9 h).sep⟩
  · unfold lend
    cases hob : ownB sel b with
    | true =>
      obtain ⟨x, hx, hxb⟩ := e8 hob
      rcases h.fresh x (List.mem_append_left _ hx) b hxb with h1 | h1
      · omega
      · obtain ⟨y, hy, hyb⟩ := List.mem_filterMap.1 (hG b h1)
        exact absurd hyb (o8 h.sep hx hy hxb)
    | false => exact h.rold b hb
  · have hk := h.owned q (List.mem_append_right _ hq)
    refine Own.ok_keep hk (Z5 hl) fun b hb => ⟨rfl, ?_⟩
    unfold lend
    cases hob : ownB sel b with
    | true =>
      obtain ⟨x, hx, hxb⟩ := e8 hob
      exact absurd hb (o8 h.sep hx hq hxb)
    | false => exact (Own.ok_blk hk hb).1
theorem X7 {env : List (Nat × AV)} {sel rest : List Own} {x y : AV} (is : List Nat) (t : Nat) (hp : pick own is = (sel, rest)) (ht : getv t env = some x) (hl : LendTo sel x y) (hG : ∀ b, G b → b ∈ rest.filterMap Own.blk) : Le G n ⟨own, env⟩ ⟨rest, (t, y) :: env⟩ := fun w0 R0 R a w ⟨h1, h2, h3⟩ => by
  have hc := a8 h1 hp
  refine ⟨lend sel w R, Z5 (T1 hc), AC9 hc hG, fun k z hz => ?_, h3⟩
  simp only [getv] at hz
  by_cases hk : t = k
  · subst hk
    simp [Nat.beq_refl] at hz
    rw [← hz]
    exact hl G w0 R0 R w _ (T1 hc) (h2 t x ht)
  · rw [k6 hk, cond_false] at hz
    exact z.mono (Z5 (T1 hc)) (h2 k z hz)
theorem AM8 {ops : Array Oper} {rest : List Oper} {env : List (Nat × AV)} {K : AState → Prop} {d : Nat} {c : Bool} (hd : o.dst = some d) (hn : Nat.blt d n = true) (hg : GuardIs ops o (getv · env) c)
    (ht : c = true → ASeq P G n ops ({ o with guard := none } :: rest) ⟨own, env⟩ K) (hf : c = false → ASeq P G n ops rest ⟨own, (d, AV.is undef) :: env⟩ K) : ASeq P G n ops (o :: rest) ⟨own, env⟩ K := fun w0 R0 R a w hs => by
  have hgc := hg R a fun t _ y hy => hs.2.1 t y hy
  cases c with
  | true =>
    refine ⟨fun _ => ?_, fun hw => by rw [hgc] at hw; exact Bool.noConfusion hw⟩
    exact (ht rfl w0 R0 R a w hs).1 rfl
  | false =>
    refine ⟨fun hw => by rw [hgc] at hw; exact Bool.noConfusion hw, fun _ => ⟨_, R, hf rfl, RSub.refl _, ?_⟩⟩
    obtain ⟨h1, h2, h3, h4⟩ := hs
    refine ⟨h1, ?_, by rw [R4]; exact h3, by rw [P7]; exact h4⟩
    have := X1 (d := o.dst) (x := AV.is undef) (v := undef) h2 (RSub.refl R) (fun q e => by rw [h3]; rw [hd] at e; injection e with e; subst e; exact Nat.blt_eq.mp hn) rfl
    rw [hd] at this ⊢
    exact this
theorem evif_no {E : EnvF} {p : Operand} {b : Bool} {x : AV} (h : b = false) : EvIf E p b x := fun hb => by rw [h] at hb; cases hb
def bandI (x y : Int) : Int := IntKind.u64.wrap (((BitVec.ofInt IntKind.u64.bits x &&& BitVec.ofInt IntKind.u64.bits y).toNat : Nat) : Int)
theorem w_band {E : EnvF} {t ty : TypeId} {p q : Operand} {x y : Int} (ho : o.op = .binOp .and t p q ty) (hp : Ev E p (AV.ik .u64 x)) (hq : Ev E q (AV.ik .u64 y)) : OpW P G n own o E (AV.ik .u64 (bandI x y)) := L5 fun R a w _ he => by
  have h1 : a.eval p = .int .u64 x := G9 hp (by simp [ho, Op.operands]) he
  have h2 : a.eval q = .int .u64 y := G9 hq (by simp [ho, Op.operands]) he
  exact ⟨.int .u64 (bandI x y), by simp only [execOp, ho, h1, h2]; simp [go_sem]; rfl, rfl⟩
end
end Go.AV

set_option linter.unusedVariables false
set_option linter.unusedSimpArgs false
namespace Go.AV
section
variable {P : Program} {G : Nat → Prop} {n : Nat} {own : List Own} {o : Oper}
def OwnC (sel : List Own) : Own → Own → Prop
  | .box b t cs, .box b' t' cs' => b = b' ∧ t = t' ∧ LendC sel cs cs'
  | .arr v t sz es, .arr v' t' sz' es' => v = v' ∧ t = t' ∧ sz = sz' ∧ LendE sel es es'
  | .frz b t cs, .frz b' t' cs' => b = b' ∧ t = t' ∧ LendC sel cs cs'
  | .tab T, .tab T' => T = T'
  | _, _ => False
def OwnsC (sel own own' : List Own) : Prop := own.length = own'.length ∧ ∀ (i : Nat) (q q' : Own), own[i]? = some q → own'[i]? = some q' → OwnC sel q q'
theorem oc_nil {sel : List Own} : OwnsC sel [] [] := ⟨rfl, fun i q q' h => by simp at h⟩
theorem oc_cons {sel a b : List Own} {q q' : Own} (h : OwnC sel q q') (k : OwnsC sel a b) : OwnsC sel (q :: a) (q' :: b) := ⟨by simp [k.1], fun i x y hx hy => by
  cases i with
  | zero => simp at hx hy; subst hx; subst hy; exact h
  | succ i => exact k.2 i x y (by simpa using hx) (by simpa using hy)⟩
theorem oc_blk {sel : List Own} {q q' : Own} (h : OwnC sel q q') : Own.blk q = Own.blk q' := by
  cases q <;> cases q' <;> unfold OwnC at h
  · exact congrArg some h.1
  · exact h.elim
  · exact h.elim
  · exact h.elim
  · exact h.elim
  · exact congrArg Value.ownBlock h.1
  · exact h.elim
  · exact h.elim
  · exact h.elim
  · exact h.elim
  · exact congrArg some h.1
  · exact h.elim
  · exact h.elim
  · exact h.elim
  · exact h.elim
  · rfl
theorem oc_map {sel a b : List Own} (h : OwnsC sel a b) : a.map Own.blk = b.map Own.blk := by
  refine List.ext_getElem? fun i => ?_
  rw [List.getElem?_map, List.getElem?_map]
  cases ha : a[i]? with
  | none =>
    have : b[i]? = none := by rw [List.getElem?_eq_none_iff] at ha ⊢; rw [← h.1]; exact ha
    rw [this]
  | some q =>
    have hi : i < b.length := by rw [← h.1]; exact (List.getElem?_eq_some_iff.1 ha).1
    rw [List.getElem?_eq_getElem hi]
    exact congrArg some (oc_blk (h.2 i q _ ha (List.getElem?_eq_getElem hi)))
theorem oc_fm {sel a b : List Own} (h : OwnsC sel a b) : a.filterMap Own.blk = b.filterMap Own.blk := by
  have := congrArg (List.filterMap id) (oc_map h)
  rwa [List.filterMap_map, List.filterMap_map] at this
theorem AH1 {sel : List Own} {xs ys : List AV} {w0 : World} {R0 R : RHeap} {w : World} {vs : List Value} (hc : Core G w0 R0 sel R w) (h : DenC R vs xs) (k : LendC sel xs ys) : DenC (lend sel w R) vs ys :=
  ⟨h.1.trans k.1, fun i v y hv hy => by
    have hi : i < xs.length := by rw [k.1]; exact (List.getElem?_eq_some_iff.1 hy).1
    have hx := List.getElem?_eq_getElem hi
    obtain ⟨h1, h2⟩ := h.2 i v _ hv hx
    exact ⟨k.2 i _ y hx hy G w0 R0 R w v hc h1, h2⟩⟩
theorem AP6 {sel rest rest' : List Own} {w0 : World} {R0 R : RHeap} {w : World} (h : Core G w0 R0 (sel ++ rest) R w) (hG : ∀ b, G b → b ∈ rest.filterMap Own.blk) (hl : OwnsC sel rest rest') : Core G w0 R0 rest' (lend sel w R) w := by
  have hb := AC9 h hG
  have hs := T1 h
  refine ⟨hb.os, hb.tape, hb.output, hb.size, hb.block, hb.rle, hb.rold, fun q' hq' => ?_, fun q' hq' b hqb => ?_, ?_⟩
  · obtain ⟨i, hi⟩ := List.getElem?_of_mem hq'
    have hir : i < rest.length := by rw [hl.1]; exact (List.getElem?_eq_some_iff.1 hi).1
    have hr := List.getElem?_eq_getElem hir
    have hm := G6 hr
    have hoc := hl.2 i _ q' hr hi
    have k1 := hb.owned _ hm
    have k2 := h.owned _ (List.mem_append_right _ hm)
    revert hoc k1 k2
    generalize rest[i] = q
    intro hoc k1 k2
    cases q <;> cases q' <;> unfold OwnC at hoc
    · obtain ⟨rfl, rfl, hc⟩ := hoc
      obtain ⟨_, vs, hv, hd⟩ := k2
      exact ⟨k1.1, vs, hv, AH1 hs hd hc⟩
    · exact hoc.elim
    · exact hoc.elim
    · exact hoc.elim
    · exact hoc.elim
    · obtain ⟨rfl, rfl, rfl, hc⟩ := hoc
      obtain ⟨_, hlen, xs, hx, hd⟩ := k2
      refine ⟨k1.1, fun e he => ?_, xs, ?_, AH1 hs hd (AQ8 hc)⟩
      · obtain ⟨j, hj⟩ := List.getElem?_of_mem he
        have hje := List.getElem?_eq_getElem (show j < _ from hc.1.symm ▸ (List.getElem?_eq_some_iff.1 hj).1)
        rw [← (hc.2 j _ e hje hj).1]
        exact hlen _ (G6 hje)
      · rw [← hc.1]; exact hx
    · exact hoc.elim
    · exact hoc.elim
    · exact hoc.elim
    · exact hoc.elim
    · obtain ⟨rfl, rfl, hc⟩ := hoc
      obtain ⟨_, vs, hv, hd⟩ := k2
      exact ⟨k1.1, vs, hv, AH1 hs hd hc⟩
    · exact hoc.elim
    · exact hoc.elim
    · exact hoc.elim
    · exact hoc.elim
    · exact hoc ▸ k1
  · have hm : (some b) ∈ rest'.map Own.blk := List.mem_map.2 ⟨q', hq', hqb⟩
    rw [← oc_map hl] at hm
    obtain ⟨q, hq, hqb2⟩ := List.mem_map.1 hm
    exact hb.fresh q hq b hqb2
  · rw [← oc_fm hl]; exact hb.sep
theorem AK0 {α β : Type} {f : FuncId} {xs : List AV} {inw : List Own} {ok : α → Prop} {O : α → List Own} {V : α → AV} {ok' : β → Prop} {O' : β → List Own} {V' : β → AV} (g : α → β) (S rest : α → List Own) (hs : GSpec P f xs inw ok O V)
    (hok : ∀ a, ok a → ok' (g a)) (hV : ∀ a, ok a → LendTo (S a) (V a) (V' (g a))) (hp : ∀ a, ok a → (O a).Perm (S a ++ rest a)) (hG : ∀ a, ok a → ∀ b, blksOf inw b → b ∈ (rest a).filterMap Own.blk) (hl : ∀ a, ok a → OwnsC (S a) (rest a) (O' (g a))) : GSpec P f xs inw ok' O' V' := fun R w vs hr hd ho hn =>
  (hs R w vs hr hd ho hn).mono fun e w' ⟨a, v, R', h0, h1, h2, h3⟩ => by
    have hc := X2 h3 (hp a h0)
    exact ⟨g a, v, lend (S a) w' R', hok a h0, h1, hV a h0 _ _ _ R' w' v (T1 hc) h2, AP6 hc (hG a h0) (hl a h0)⟩
theorem oc_refl {sel : List Own} (q : Own) : OwnC sel q q := by
  cases q with
  | box b t cs => exact ⟨rfl, rfl, AA0⟩
  | arr v t sz es => exact ⟨rfl, rfl, rfl, I9⟩
  | frz b t cs => exact ⟨rfl, rfl, AA0⟩
  | tab T => exact rfl
theorem oc_set {sel l : List Own} {i : Nat} {q q' : Own} (hi : l[i]? = some q) (hc : OwnC sel q q') : OwnsC sel l (l.set i q') := ⟨by simp, fun j x y hx hy => by
  by_cases h : i = j
  · subst h
    rw [List.getElem?_set_self (List.getElem?_eq_some_iff.1 hi).1] at hy
    rw [hi] at hx
    injection hx with hx; injection hy with hy; subst hx; subst hy; exact hc
  · rw [List.getElem?_set_ne h, hx] at hy
    injection hy with hy; subst hy; exact oc_refl _⟩
theorem n3 {env : List (Nat × AV)} {sel rest : List Own} {q : Own} (is : List Nat) (i : Nat) (q' : Own) (hp : pick own is = (sel, rest)) (hi : rest[i]? = some q) (hc : OwnC sel q q') (hG : ∀ b, G b → b ∈ rest.filterMap Own.blk) : Le G n ⟨own, env⟩ ⟨rest.set i q', env⟩ := fun w0 R0 R a w ⟨h1, h2, h3⟩ => by
  have hk := a8 h1 hp
  exact ⟨lend sel w R, Z5 (T1 hk), AP6 hk hG (oc_set hi hc), fun t z hz => z.mono (Z5 (T1 hk)) (h2 t z hz), h3⟩
section
variable {T X : Type} {ocs : T → X → List AV} {cs : T → List AV} {ow : T → X → List Own}
end
end
end Go.AV

set_option linter.unusedVariables false
set_option linter.unusedSimpArgs false
namespace Go.AV
section
variable {P : Program} {G : Nat → Prop} {n : Nat} {own : List Own} {o : Oper} {E : EnvF}
@[reducible] def byteC (b : UInt8) : List AV := [AV.ik .u8 b.toNat]
end
end Go.AV

set_option linter.unusedVariables false
set_option linter.unusedSimpArgs false
set_option maxRecDepth 100000
namespace Go.Proofs.YtnlhbdkcgaeimaaGreat
open Go Go.AV Go.M
attribute [local irreducible] OpW OpA OpS AWP FSpec ESpec RetOk RvDen Le Ev GuardIs
end Go.Proofs.YtnlhbdkcgaeimaaGreat

set_option linter.unusedVariables false
set_option linter.unusedSimpArgs false
set_option maxRecDepth 100000
namespace Go.M
open Go.AV
end Go.M
namespace Go.Proofs.YtnlhbdkcgaeimaaGreat
open Go Go.AV Go.M
attribute [local irreducible] OpW OpA OpS AWP FSpec ESpec GSpec OpE RetOk RetOkG RvDen Le Ev GuardIs SrcIs Int.tmod Int.tdiv IntKind.wrap
end Go.Proofs.YtnlhbdkcgaeimaaGreat

set_option linter.unusedVariables false
set_option linter.unusedSimpArgs false
set_option maxRecDepth 100000
namespace Go.M
open Go.AV
end Go.M
namespace Go.Proofs.YtnlhbdkcgaeimaaGreat
open Go Go.AV Go.M
attribute [local irreducible] OpW OpA OpS AWP FSpec ESpec GSpec OpE RetOk RetOkG RvDen Le Ev GuardIs SrcIs Int.tmod Int.tdiv IntKind.wrap
end Go.Proofs.YtnlhbdkcgaeimaaGreat

set_option linter.unusedVariables false
set_option linter.unusedSimpArgs false
set_option maxRecDepth 100000
namespace Go.M
open Go.AV
end Go.M
namespace Go.Proofs.YtnlhbdkcgaeimaaGreat
open Go Go.AV Go.M
attribute [local irreducible] OpW OpA OpS AWP FSpec ESpec GSpec OpE RetOk RetOkG RvDen Le Ev GuardIs SrcIs Int.tmod Int.tdiv IntKind.wrap
end Go.Proofs.YtnlhbdkcgaeimaaGreat

set_option linter.unusedVariables false
set_option linter.unusedSimpArgs false
set_option maxRecDepth 100000
set_option maxHeartbeats 1000000
namespace Go.M
open Go.AV
end Go.M
namespace Go.Proofs.YtnlhbdkcgaeimaaGreat
open Go Go.AV Go.M
attribute [local irreducible] OpW OpA OpS AWP FSpec ESpec GSpec OpE RetOk RetOkG RvDen Le Ev GuardIs SrcIs
end Go.Proofs.YtnlhbdkcgaeimaaGreat

set_option linter.unusedVariables false
set_option linter.unusedSimpArgs false
namespace Go.M
open Go.AV
structure TCur where
  p : Nat
  seed : Int
def bytesI (l : List Int) : AV := AV.list 1 (l.map fun x => [AV.ik .u8 x])
def curC (code : List Int) (c : TCur) : List AV := [bytesI code, AV.int c.p, AV.ik .u64 c.seed]
def ByteL (code : List Int) : Prop := ∀ x ∈ code, 0 ≤ x ∧ x ≤ 255
theorem Aa2 {l : List Int} (h : ∀ x ∈ l, (Lit.int .u8 x).wf = true) : ByteL l := fun x hx => by
  have := h x hx
  simp only [Lit.wf, IntKind.min, IntKind.max, IntKind.signed, IntKind.bits] at this
  simp at this
  omega
theorem w3 {x : Int} (h : 0 ≤ x ∧ x ≤ 255) : IntKind.i64.wrap x = x := in64 (by omega)
theorem c4 (x : Int) : 0 ≤ bandI x 255 ∧ bandI x 255 ≤ 255 := by
  unfold bandI
  have h1 : (BitVec.ofInt IntKind.u64.bits x &&& BitVec.ofInt IntKind.u64.bits 255).toNat ≤ 255 := by
    rw [BitVec.toNat_and]
    exact Nat.le_trans Nat.and_le_right (by decide)
  generalize (BitVec.ofInt IntKind.u64.bits x &&& BitVec.ofInt IntKind.u64.bits 255).toNat = n at h1
  unfold IntKind.wrap
  simp [IntKind.bits, IntKind.signed]
  omega
def bigB (code more : List Int) : Bool := decide ((1048576 : Int) < code.length) || decide ((1048576 : Int) - code.length < more.length)
end Go.M

set_option linter.unusedVariables false
set_option linter.unusedSimpArgs false
set_option maxRecDepth 100000
namespace Go.Proofs.YtnlhbdkcgaeimaaGreat
open Go Go.AV Go.M
attribute [local irreducible] OpW OpA OpS AWP FSpec ESpec GSpec OpE RetOk RetOkG RvDen Le Ev GuardIs SrcIs Int.tmod IntKind.wrap bandI
theorem AK1 (b : Nat) (code : List Int) (hcode : ByteL code) (c : TCur) (hp : c.p ≤ 8000000) : GSpec Tryz.prog 197 [AV.ptr b 0] [.box b 127 (curC code c)] (fun x : TCur × Int => x.1.p ≤ c.p + 1 ∧ 0 ≤ x.2 ∧ x.2 ≤ 255) (fun x => [.box b 127 (curC code x.1)]) (fun x => AV.int x.2) := by
 have hcb := hcode
 refine I2 Tryz.func197 rfl Tryz.ntmps197 rfl ?_
 refine A3 (A2 ?_)
 refine A1 rfl rfl rfl (B8 rfl B5) ?_
 refine A5 (A3 (A2 ?_))
 try rw [w3 hzb]
 refine A1 rfl rfl rfl (B8 rfl B5) ?_
 refine A5 (A3 (A3 ?_))
 refine K0 (by kernel_rfl) (by kernel_rfl) rfl ?_
 refine C2 rfl rfl (C4 rfl (A0 rfl)) ?_
 refine C2 rfl rfl (V7 rfl (A0 rfl)) ?_
 refine C2 rfl rfl (B6 1 rfl J2 rfl B9 (A0 rfl) rfl) ?_
 refine C2 rfl rfl (B4 0 rfl (A0 rfl) rfl C7 rfl) ?_
 refine C2 rfl rfl (C4 rfl (A0 rfl)) ?_
 refine C2 rfl rfl (V7 rfl (A0 rfl)) ?_
 refine C2 rfl rfl (B6 0 rfl J2 rfl Tryz.sizeOf22 (A0 rfl) rfl) ?_
 refine C2 rfl rfl (B4 0 rfl (A0 rfl) rfl Tryz.isAgg22 rfl) ?_
 refine C2 rfl rfl (H3 rfl R9 (A0 rfl)) ?_
 refine C2 rfl rfl (J8 rfl (A0 rfl) (A0 rfl)) ?_
 refine Q9 ?_
 refine C8 (A0 rfl) ?_ ?_
 ·intro h13
  have k13 := of_decide_eq_true h13; try simp only [A6] at k13
  obtain ⟨z, hz⟩ := get_some (show c.p < code.length by omega)
  have hzb := hcb z (G6 hz)
  refine K0 (by kernel_rfl) (by kernel_rfl) rfl ?_
  refine C2 rfl rfl (C4 rfl (A0 rfl)) ?_
  refine C2 rfl rfl (V7 rfl (A0 rfl)) ?_
  refine C2 rfl rfl (B6 0 rfl J2 rfl Tryz.sizeOf22 (A0 rfl) rfl) ?_
  refine C2 rfl rfl (B4 0 rfl (A0 rfl) rfl Tryz.isAgg22 rfl) ?_
  refine C2 rfl rfl (C4 rfl (A0 rfl)) ?_
  refine C2 rfl rfl (V7 rfl (A0 rfl)) ?_
  refine C2 rfl rfl (B6 1 rfl J2 rfl B9 (A0 rfl) rfl) ?_
  refine C2 rfl rfl (B4 0 rfl (A0 rfl) rfl C7 rfl) ?_
  refine C2 rfl rfl (J4 rfl R9 Tryz.sizeOf5 (A0 rfl) (A0 rfl) hz rfl) ?_
  refine C2 rfl rfl (L6 rfl (A0 rfl) Tryz.isAgg5 rfl) ?_
  refine C2 rfl rfl (d8 rfl (by kernel_rfl) U7 (A0 rfl)) ?_
  try rw [w3 hzb]
  refine C2 rfl rfl (B8 rfl (A0 rfl)) ?_
  refine Q9 ?_
  refine A3 (A2 ?_)
  refine A4 rfl rfl rfl rfl rfl ?_
  refine A1 rfl rfl rfl (V7 rfl (A0 rfl)) ?_
  refine A1 rfl rfl rfl (B6 1 rfl J2 rfl B9 (A0 rfl) rfl) ?_
  refine A1 rfl rfl rfl (B4 0 rfl (A0 rfl) rfl C7 rfl) ?_
  refine A1 rfl rfl rfl (G5 rfl (A0 rfl) B5 (by first | omega | (simp only [A6, B0, B7, C1, B3, szR] at *; omega))) ?_
  refine A1 rfl rfl rfl (V7 rfl (A0 rfl)) ?_
  refine A1 rfl rfl rfl (B6 1 rfl J2 rfl B9 (A0 rfl) rfl) ?_
  refine L0 0 rfl rfl rfl (A0 rfl) (A0 rfl) (K8 _ _) rfl B9 rfl ?_
  refine A5 (A3 (A2 ?_))
  refine A4 rfl rfl rfl rfl rfl ?_
  refine A4 rfl rfl rfl rfl rfl ?_
  refine A1 rfl rfl rfl (V7 rfl (A0 rfl)) ?_
  refine A1 rfl rfl rfl (B6 2 rfl J2 rfl U1 (A0 rfl) rfl) ?_
  refine A1 rfl rfl rfl (B4 0 rfl (A0 rfl) rfl Tryz.isAgg125 rfl) ?_
  refine A1 rfl rfl rfl (w_mul rfl (A0 rfl) B5) ?_
  refine A4 rfl rfl rfl rfl rfl ?_
  refine A1 rfl rfl rfl (d8 rfl (by kernel_rfl) Tryz.underlying125 (A0 rfl)) ?_
  refine A1 rfl rfl rfl (AO1 rfl (A0 rfl) (A0 rfl)) ?_
  refine A1 rfl rfl rfl (AO1 rfl (A0 rfl) B5) ?_
  refine A1 rfl rfl rfl (V7 rfl (A0 rfl)) ?_
  refine A1 rfl rfl rfl (B6 2 rfl J2 rfl U1 (A0 rfl) rfl) ?_
  refine L0 0 rfl rfl rfl (A0 rfl) (A0 rfl) (K8 _ _) rfl U1 rfl ?_
  refine A5 (A3 (A3 ?_))
  refine K0 (by kernel_rfl) (by kernel_rfl) rfl ?_
  refine C2 rfl rfl (C4 rfl (A0 rfl)) ?_
  refine C2 rfl rfl (V7 rfl (A0 rfl)) ?_
  refine C2 rfl rfl (B6 1 rfl J2 rfl B9 (A0 rfl) rfl) ?_
  refine C2 rfl rfl (B4 0 rfl (A0 rfl) rfl C7 rfl) ?_
  refine C2 rfl rfl (C4 rfl (A0 rfl)) ?_
  refine C2 rfl rfl (V7 rfl (A0 rfl)) ?_
  refine C2 rfl rfl (B6 0 rfl J2 rfl Tryz.sizeOf22 (A0 rfl) rfl) ?_
  refine C2 rfl rfl (B4 0 rfl (A0 rfl) rfl Tryz.isAgg22 rfl) ?_
  refine C2 rfl rfl (H3 rfl R9 (A0 rfl)) ?_
  refine C2 rfl rfl (S0 rfl (A0 rfl) (A0 rfl)) ?_
  refine Q9 ?_
  refine C8 (A0 rfl) ?_ ?_
  ·intro h53
   have k53 := of_decide_eq_true h53; try simp only [A6] at k53
   refine A3 (A2 ?_)
   refine A4 rfl rfl rfl rfl rfl ?_
   refine B2 rfl rfl rfl rfl rfl ?_
   refine A5 ?_
   refine C6 ?_
   (refine M8 [0] ((⟨c.p + 1, _⟩, _)) ?_ rfl (by first | (dsimp only; rfl) | rfl) (Q4 rfl (C3 rfl (by first | rfl | (refine congrArg AV.bool ?_; simp_all; done)))); first | exact ⟨Nat.le_refl _, hzb⟩ | exact ⟨Nat.le_refl _, Int.le_refl 0, (show (0 : Int) ≤ 255 by decide)⟩ | (rw [w3 (c4 _)]; exact ⟨Nat.le_refl _, c4 _⟩))
  ·intro h53
   have k53 := of_decide_eq_false h53; try simp only [A6] at k53
   refine D1 (A3 (A2 ?_))
   refine A4 rfl rfl rfl rfl rfl ?_
   refine A1 rfl rfl rfl (V7 rfl (A0 rfl)) ?_
   refine A1 rfl rfl rfl (B6 2 rfl J2 rfl U1 (A0 rfl) rfl) ?_
   refine A1 rfl rfl rfl (B4 0 rfl (A0 rfl) rfl Tryz.isAgg125 rfl) ?_
   refine A1 rfl rfl rfl (AO2 rfl (A0 rfl) B5 (by decide) (by decide)) ?_
   refine A1 rfl rfl rfl (w_band rfl (A0 rfl) B5) ?_
   refine A1 rfl rfl rfl (d8 rfl (by kernel_rfl) U7 (A0 rfl)) ?_
   refine B2 rfl rfl rfl rfl rfl ?_
   refine A5 ?_
   refine C6 ?_
   (refine M8 [0] ((⟨c.p + 1, _⟩, _)) ?_ rfl (by first | (dsimp only; rfl) | rfl) (Q4 rfl (C3 rfl (by first | rfl | (refine congrArg AV.bool ?_; simp_all; done)))); first | exact ⟨Nat.le_refl _, hzb⟩ | exact ⟨Nat.le_refl _, Int.le_refl 0, (show (0 : Int) ≤ 255 by decide)⟩ | (rw [w3 (c4 _)]; exact ⟨Nat.le_refl _, c4 _⟩))
 ·intro h13
  have k13 := of_decide_eq_false h13; try simp only [A6] at k13
  refine D1 (A3 (A2 ?_))
  refine A4 rfl rfl rfl rfl rfl ?_
  refine A1 rfl rfl rfl (V7 rfl (A0 rfl)) ?_
  refine A1 rfl rfl rfl (B6 1 rfl J2 rfl B9 (A0 rfl) rfl) ?_
  refine A1 rfl rfl rfl (B4 0 rfl (A0 rfl) rfl C7 rfl) ?_
  refine A1 rfl rfl rfl (G5 rfl (A0 rfl) B5 (by first | omega | (simp only [A6, B0, B7, C1, B3, szR] at *; omega))) ?_
  refine A1 rfl rfl rfl (V7 rfl (A0 rfl)) ?_
  refine A1 rfl rfl rfl (B6 1 rfl J2 rfl B9 (A0 rfl) rfl) ?_
  refine L0 0 rfl rfl rfl (A0 rfl) (A0 rfl) (K8 _ _) rfl B9 rfl ?_
  refine A5 (A3 (A2 ?_))
  refine A4 rfl rfl rfl rfl rfl ?_
  refine A4 rfl rfl rfl rfl rfl ?_
  refine A1 rfl rfl rfl (V7 rfl (A0 rfl)) ?_
  refine A1 rfl rfl rfl (B6 2 rfl J2 rfl U1 (A0 rfl) rfl) ?_
  refine A1 rfl rfl rfl (B4 0 rfl (A0 rfl) rfl Tryz.isAgg125 rfl) ?_
  refine A1 rfl rfl rfl (w_mul rfl (A0 rfl) B5) ?_
  refine A4 rfl rfl rfl rfl rfl ?_
  refine A1 rfl rfl rfl (d8 rfl (by kernel_rfl) Tryz.underlying125 (A0 rfl)) ?_
  refine A1 rfl rfl rfl (AO1 rfl (A0 rfl) (A0 rfl)) ?_
  refine A1 rfl rfl rfl (AO1 rfl (A0 rfl) B5) ?_
  refine A1 rfl rfl rfl (V7 rfl (A0 rfl)) ?_
  refine A1 rfl rfl rfl (B6 2 rfl J2 rfl U1 (A0 rfl) rfl) ?_
  refine L0 0 rfl rfl rfl (A0 rfl) (A0 rfl) (K8 _ _) rfl U1 rfl ?_
  refine A5 (A3 (A3 ?_))
  refine K0 (by kernel_rfl) (by kernel_rfl) rfl ?_
  refine C2 rfl rfl (C4 rfl (A0 rfl)) ?_
  refine C2 rfl rfl (V7 rfl (A0 rfl)) ?_
  refine C2 rfl rfl (B6 1 rfl J2 rfl B9 (A0 rfl) rfl) ?_
  refine C2 rfl rfl (B4 0 rfl (A0 rfl) rfl C7 rfl) ?_
  refine C2 rfl rfl (C4 rfl (A0 rfl)) ?_
  refine C2 rfl rfl (V7 rfl (A0 rfl)) ?_
  refine C2 rfl rfl (B6 0 rfl J2 rfl Tryz.sizeOf22 (A0 rfl) rfl) ?_
  refine C2 rfl rfl (B4 0 rfl (A0 rfl) rfl Tryz.isAgg22 rfl) ?_
  refine C2 rfl rfl (H3 rfl R9 (A0 rfl)) ?_
  refine C2 rfl rfl (S0 rfl (A0 rfl) (A0 rfl)) ?_
  refine Q9 ?_
  refine C8 (A0 rfl) ?_ ?_
  ·intro h53
   have k53 := of_decide_eq_true h53; try simp only [A6] at k53
   refine A3 (A2 ?_)
   refine A4 rfl rfl rfl rfl rfl ?_
   refine B2 rfl rfl rfl rfl rfl ?_
   refine A5 ?_
   refine C6 ?_
   (refine M8 [0] ((⟨c.p + 1, _⟩, _)) ?_ rfl (by first | (dsimp only; rfl) | rfl) (Q4 rfl (C3 rfl (by first | rfl | (refine congrArg AV.bool ?_; simp_all; done)))); first | exact ⟨Nat.le_refl _, hzb⟩ | exact ⟨Nat.le_refl _, Int.le_refl 0, (show (0 : Int) ≤ 255 by decide)⟩ | (rw [w3 (c4 _)]; exact ⟨Nat.le_refl _, c4 _⟩))
  ·intro h53
   have k53 := of_decide_eq_false h53; try simp only [A6] at k53
   refine D1 (A3 (A2 ?_))
   refine A4 rfl rfl rfl rfl rfl ?_
   refine A1 rfl rfl rfl (V7 rfl (A0 rfl)) ?_
   refine A1 rfl rfl rfl (B6 2 rfl J2 rfl U1 (A0 rfl) rfl) ?_
   refine A1 rfl rfl rfl (B4 0 rfl (A0 rfl) rfl Tryz.isAgg125 rfl) ?_
   refine A1 rfl rfl rfl (AO2 rfl (A0 rfl) B5 (by decide) (by decide)) ?_
   refine A1 rfl rfl rfl (w_band rfl (A0 rfl) B5) ?_
   refine A1 rfl rfl rfl (d8 rfl (by kernel_rfl) U7 (A0 rfl)) ?_
   refine B2 rfl rfl rfl rfl rfl ?_
   refine A5 ?_
   refine C6 ?_
   (refine M8 [0] ((⟨c.p + 1, _⟩, _)) ?_ rfl (by first | (dsimp only; rfl) | rfl) (Q4 rfl (C3 rfl (by first | rfl | (refine congrArg AV.bool ?_; simp_all; done)))); first | exact ⟨Nat.le_refl _, hzb⟩ | exact ⟨Nat.le_refl _, Int.le_refl 0, (show (0 : Int) ≤ 255 by decide)⟩ | (rw [w3 (c4 _)]; exact ⟨Nat.le_refl _, c4 _⟩))
theorem N3 (b : Nat) (code : List Int) (hcode : ByteL code) (c : TCur) (n : Int) (hn : n ≤ 1000000) (hp : c.p ≤ 7000000) : GSpec Tryz.prog 100 [AV.ptr b 0, AV.int n] [.box b 127 (curC code c)] (fun x : TCur × Int => x.1.p ≤ c.p + 2 ∧ 0 ≤ x.2 ∧ (x.2 < n ∨ x.2 = 0)) (fun x => [.box b 127 (curC code x.1)]) (fun x => AV.int x.2) := by
 refine I2 Tryz.func100 rfl Tryz.ntmps100 rfl ?_
 refine A3 (A2 ?_)
 refine A1 rfl rfl rfl (B8 rfl B5) ?_
 refine A5 (A3 (A3 (A2 ?_)))
 refine A4 rfl rfl rfl rfl rfl ?_
 refine A1 rfl rfl rfl (S0 rfl (A0 rfl) B5) ?_
 refine A5 ?_
 refine C8 (A0 rfl) ?_ ?_
 ·intro h7
  have k7 := of_decide_eq_true h7; try simp only [A6] at k7
  refine A3 (A2 ?_)
  refine A1 rfl rfl rfl (B8 rfl B5) ?_
  refine A5 ?_
  refine C6 ?_
  (refine M8 [0] ((_, _)) ?_ rfl (by first | (dsimp only; rfl) | rfl) (Q4 rfl (C3 rfl (by first | rfl | (refine congrArg AV.bool ?_; simp_all; done)))); (dsimp only; first | omega | exact ⟨by omega, Int.tmod_nonneg _ (by omega), .inl (Int.tmod_lt_of_pos _ (by omega))⟩))
 ·intro h7
  have k7 := of_decide_eq_false h7; try simp only [A6] at k7
  refine D1 (A3 (A2 ?_))
  refine A4 rfl rfl rfl rfl rfl ?_
  refine G0 [0] rfl rfl rfl rfl Tryz.call197 rfl (AK1 _ _ hcode _ (by omega)) (A7 (A0 rfl) C0) rfl ?_
  intro x9 ok9
  refine B2 rfl rfl rfl rfl rfl ?_
  refine A5 (A3 (A3 (A2 ?_)))
  refine A4 rfl rfl rfl rfl rfl ?_
  refine A1 rfl rfl rfl (O5 rfl (A0 rfl) B5) ?_
  refine A5 ?_
  refine C8 (A0 rfl) ?_ ?_
  ·intro h11
   have k11 := of_decide_eq_true h11; try simp only [A6] at k11
   refine A2 ?_
   refine A4 rfl rfl rfl rfl rfl ?_
   refine A1 rfl rfl rfl (w_muli rfl (A0 rfl) B5 (by first | omega | (simp only [A6, B0, B7, C1, B3, szR] at *; omega))) ?_
   refine A4 rfl rfl rfl rfl rfl ?_
   refine G0 [0] rfl rfl rfl rfl Tryz.call197 rfl (AK1 _ _ hcode _ (by omega)) (A7 (A0 rfl) C0) rfl ?_
   intro x15 ok15
   refine A1 rfl rfl rfl (G5 rfl (A0 rfl) (A0 rfl) (by first | omega | (simp only [A6, B0, B7, C1, B3, szR] at *; omega))) ?_
   refine B2 rfl rfl rfl rfl rfl ?_
   refine A5 (A3 (A2 ?_))
   refine A4 rfl rfl rfl rfl rfl ?_
   refine A4 rfl rfl rfl rfl rfl ?_
   refine A1 rfl rfl rfl (w_rem rfl (A0 rfl) (A0 rfl) (by omega)) ?_
   refine B2 rfl rfl rfl rfl rfl ?_
   refine A5 ?_
   refine C6 ?_
   (refine M8 [0] ((_, _)) ?_ rfl (by first | (dsimp only; rfl) | rfl) (Q4 rfl (C3 rfl (by first | rfl | (refine congrArg AV.bool ?_; simp_all; done)))); (dsimp only; first | omega | exact ⟨by omega, Int.tmod_nonneg _ (by omega), .inl (Int.tmod_lt_of_pos _ (by omega))⟩))
  ·intro h11
   have k11 := of_decide_eq_false h11; try simp only [A6] at k11
   refine D1 (A3 (A2 ?_))
   refine A4 rfl rfl rfl rfl rfl ?_
   refine A4 rfl rfl rfl rfl rfl ?_
   refine A1 rfl rfl rfl (w_rem rfl (A0 rfl) (A0 rfl) (by omega)) ?_
   refine B2 rfl rfl rfl rfl rfl ?_
   refine A5 ?_
   refine C6 ?_
   (refine M8 [0] ((_, _)) ?_ rfl (by first | (dsimp only; rfl) | rfl) (Q4 rfl (C3 rfl (by first | rfl | (refine congrArg AV.bool ?_; simp_all; done)))); (dsimp only; first | omega | exact ⟨by omega, Int.tmod_nonneg _ (by omega), .inl (Int.tmod_lt_of_pos _ (by omega))⟩))
theorem r3 (b : Nat) (code : List Int) (hcode : ByteL code) (c : TCur) (n : Int) (hn : n ≤ 1000000) (hp : c.p ≤ 7000000) : GSpec Tryz.prog 79 [AV.ptr b 0, AV.int n] [.box b 127 (curC code c)] (fun x : TCur × Bool => x.1.p ≤ c.p + 2) (fun x => [.box b 127 (curC code x.1)]) (fun x => AV.bool x.2) := by
 refine I2 Tryz.func79 rfl Tryz.ntmps79 rfl ?_
 refine A3 (A2 ?_)
 refine A1 rfl rfl rfl (B8 rfl F0) ?_
 refine A5 (A3 (A2 ?_))
 refine A4 rfl rfl rfl rfl rfl ?_
 refine A4 rfl rfl rfl rfl rfl ?_
 refine G0 [0] rfl rfl rfl rfl Tryz.call100 rfl (N3 _ _ hcode _ _ (by omega) (by omega)) (A7 (A0 rfl) (A7 (A0 rfl) C0)) rfl ?_
 intro x7 ok7
 refine A1 rfl rfl rfl (M5 rfl (A0 rfl) B5) ?_
 refine B2 rfl rfl rfl rfl rfl ?_
 refine A5 ?_
 refine C6 ?_
 (refine M8 [0] ((_, _)) ?_ rfl (by first | (dsimp only; rfl) | rfl) (Q4 rfl (C3 rfl (by rfl))); exact ok7.1)
theorem AV3 (b : Nat) (code : List Int) (hcode : ByteL code) (c : TCur) (l : List Str) (hl : (∀ s ∈ l, s.length ≤ 64) ∧ 1 ≤ l.length ∧ l.length ≤ 1000) (hp : c.p ≤ 7000000) : GSpec Tryz.prog 151 [AV.ptr b 0, strs l] [.box b 127 (curC code c)] (fun x : TCur × Str => x.1.p ≤ c.p + 2 ∧ x.2.length ≤ 64) (fun x => [.box b 127 (curC code x.1)]) (fun x => AV.str x.2) := by
 obtain ⟨hls, hl1, hl2⟩ := hl
 refine I2 Tryz.func151 rfl Tryz.ntmps151 rfl ?_
 refine A3 (A2 ?_)
 refine A1 rfl rfl rfl (B8 rfl (Q3 (l := []) rfl)) ?_
 refine A5 (A3 (A2 ?_))
 refine A4 rfl rfl rfl rfl rfl ?_
 refine A4 rfl rfl rfl rfl rfl ?_
 refine A4 rfl rfl rfl rfl rfl ?_
 refine A1 rfl rfl rfl (H3 rfl E2 (A0 rfl)) ?_
 refine G0 [0] rfl rfl rfl rfl Tryz.call100 rfl (N3 _ _ hcode _ _ (by simp only [A6]; omega) (by omega)) (A7 (A0 rfl) (A7 (A0 rfl) C0)) rfl ?_
 intro x9 ok9
 simp only [A6] at ok9
 obtain ⟨y, hy⟩ := get_some (show x9.2.toNat < l.length by omega)
 refine A1 rfl rfl rfl (J4 rfl E2 F5 (A0 rfl) (A0 rfl) hy (by omega)) ?_
 refine A1 rfl rfl rfl (L6 rfl (A0 rfl) H0 rfl) ?_
 refine B2 rfl rfl rfl rfl rfl ?_
 refine A5 ?_
 refine C6 ?_
 (refine M8 [0] ((_, _)) ?_ rfl (by first | (dsimp only; rfl) | rfl) (Q4 rfl (C3 rfl (by rfl))); exact ⟨ok9.1, hls _ (G6 hy)⟩)
theorem m0 (b : Nat) (code : List Int) (hcode : ByteL code) (c : TCur) (l : List Int) (hl : 1 ≤ l.length ∧ l.length ≤ 1000) (hp : c.p ≤ 7000000) : GSpec Tryz.prog 129 [AV.ptr b 0, ints l] [.box b 127 (curC code c)] (fun x : TCur × Int => x.1.p ≤ c.p + 2 ∧ x.2 ∈ l) (fun x => [.box b 127 (curC code x.1)]) (fun x => AV.int x.2) := by
 obtain ⟨hl1, hl2⟩ := hl
 refine I2 Tryz.func129 rfl Tryz.ntmps129 rfl ?_
 refine A3 (A2 ?_)
 refine A1 rfl rfl rfl (B8 rfl B5) ?_
 refine A5 (A3 (A2 ?_))
 refine A4 rfl rfl rfl rfl rfl ?_
 refine A4 rfl rfl rfl rfl rfl ?_
 refine A4 rfl rfl rfl rfl rfl ?_
 refine A1 rfl rfl rfl (H3 rfl I0 (A0 rfl)) ?_
 refine G0 [0] rfl rfl rfl rfl Tryz.call100 rfl (N3 _ _ hcode _ _ (by simp only [A6]; omega) (by omega)) (A7 (A0 rfl) (A7 (A0 rfl) C0)) rfl ?_
 intro x9 ok9
 simp only [A6] at ok9
 obtain ⟨y, hy⟩ := get_some (show x9.2.toNat < l.length by omega)
 refine A1 rfl rfl rfl (J4 rfl I0 B9 (A0 rfl) (A0 rfl) hy (by omega)) ?_
 refine A1 rfl rfl rfl (L6 rfl (A0 rfl) C7 rfl) ?_
 refine B2 rfl rfl rfl rfl rfl ?_
 refine A5 ?_
 refine C6 ?_
 (refine M8 [0] ((_, _)) ?_ rfl (by first | (dsimp only; rfl) | rfl) (Q4 rfl (C3 rfl (by rfl))); exact ⟨ok9.1, G6 hy⟩)
theorem AP7 (b : Nat) (code : List Int) (hcode : ByteL code) (c : TCur) (hp : c.p ≤ 6000000) : GSpec Tryz.prog 116 [AV.ptr b 0] [.box b 127 (curC code c)] (fun x : TCur × Str => x.1.p ≤ c.p + 2 ∧ x.2.length ≤ 64) (fun x => [.box b 127 (curC code x.1)]) (fun x => AV.str x.2) := by
 refine I2 Tryz.func116 rfl Tryz.ntmps116 rfl ?_
 refine A3 (A2 ?_)
 refine A1 rfl rfl rfl (B8 rfl (Q3 (l := []) rfl)) ?_
 refine A5 (A3 (A2 ?_))
 refine A4 rfl rfl rfl rfl rfl ?_
 refine A1 rfl rfl rfl (M3 rfl E2 F5 Tryz.zeroValue9 rfl rfl rfl rfl (E7 (Q3 (l := [97]) rfl) (P4 _) (E7 (Q3 (l := [98]) rfl) (P4 _) (E7 (Q3 (l := [99]) rfl) (P4 _) (E7 (Q3 (l := [109]) rfl) (P4 _) (E7 (Q3 (l := [110]) rfl) (P4 _) (E7 (Q3 (l := [122]) rfl) (P4 _) (E7 (Q3 (l := [114, 47, 49]) rfl) (P4 _) (E7 (Q3 (l := [105, 47, 120, 47, 49]) rfl) (P4 _) I6)))))))) rfl rfl) ?_
 refine G0 [0] rfl rfl rfl rfl Tryz.call151 rfl (AV3 _ _ hcode _ ([[97], [98], [99], [109], [110], [122], [114, 47, 49], [105, 47, 120, 47, 49]] : List Str) (by decide) (by omega)) (A7 (A0 rfl) (A7 (A0 rfl) C0)) rfl ?_
 intro x5 ok5
 refine B2 rfl rfl rfl rfl rfl ?_
 refine A5 ?_
 refine C6 ?_
 (refine M8 [0] ((_, _)) ?_ rfl (by first | (dsimp only; rfl) | rfl) (Q4 rfl (C3 rfl (by rfl))); exact ok5)
end Go.Proofs.YtnlhbdkcgaeimaaGreat

set_option linter.unusedVariables false
set_option linter.unusedSimpArgs false
set_option maxRecDepth 100000
namespace Go.Proofs.YtnlhbdkcgaeimaaGreat
open Go Go.AV Go.M
attribute [local irreducible] OpW OpA OpS AWP FSpec ESpec GSpec OpE RetOk RetOkG RvDen Le Ev GuardIs SrcIs
theorem big_spec (code more : List Int) : FSpec Tryz.prog 8 [bytesI code, bytesI more] (AV.bool (bigB code more)) := by
 refine D9 Tryz.func8 rfl Tryz.ntmps8 rfl ?_
 refine S4 (t := 0) rfl fun hl0 => ?_
 try simp only [A6] at hl0
 refine S4 (t := 1) rfl fun hl1 => ?_
 try simp only [A6] at hl1
 refine A3 (A2 ?_)
 refine A1 rfl rfl rfl (B8 rfl F0) ?_
 refine A5 (A3 (A2 ?_))
 refine A4 rfl rfl rfl rfl rfl ?_
 refine A1 rfl rfl rfl (H3 rfl R9 (A0 rfl)) ?_
 refine A1 rfl rfl rfl (O5 rfl (A0 rfl) B5) ?_
 refine A4 rfl rfl rfl rfl rfl ?_
 refine A9 rfl rfl (C9 rfl rfl rfl) (fun hc => C4 rfl (A0 rfl)) ?_
 refine A9 rfl rfl (C9 rfl rfl rfl) (fun hc => H3 rfl R9 (A8 rfl hc)) ?_
 refine A9 rfl rfl (C9 rfl rfl rfl) (fun hc => C4 rfl (A0 rfl)) ?_
 refine A9 rfl rfl (C9 rfl rfl rfl) (fun hc => H3 rfl R9 (A8 rfl hc)) ?_
 refine A9 rfl rfl (C9 rfl rfl rfl) (fun hc => N1 rfl B5 (A8 rfl hc) (by simp only [A6]; omega)) ?_
 refine A9 rfl rfl (C9 rfl rfl rfl) (fun hc => O5 rfl (A8 rfl hc) (A8 rfl hc)) ?_
 refine A1 rfl rfl rfl (N4 rfl (A0 rfl) (E3 rfl)) ?_
 refine B2 rfl rfl rfl rfl rfl ?_
 refine A5 ?_
 refine C6 ?_
 exact H1 rfl (C3 rfl (by (refine congrArg AV.bool ?_; unfold bigB; simp only [A6])))
end Go.Proofs.YtnlhbdkcgaeimaaGreat

set_option linter.unusedVariables false
set_option linter.unusedSimpArgs false
set_option maxRecDepth 100000
namespace Go.Proofs.YtnlhbdkcgaeimaaGreat
open Go Go.AV Go.M
attribute [local irreducible] OpW OpA OpS AWP FSpec ESpec GSpec OpE RetOk RetOkG RvDen Le Ev GuardIs SrcIs Int.tmod Int.tdiv IntKind.wrap bandI
end Go.Proofs.YtnlhbdkcgaeimaaGreat

set_option linter.unusedVariables false
set_option linter.unusedSimpArgs false
set_option maxRecDepth 100000
set_option maxHeartbeats 1000000
namespace Go.Proofs.YtnlhbdkcgaeimaaGreat
open Go Go.AV Go.M
attribute [local irreducible] OpW OpA OpS AWP FSpec ESpec GSpec OpE RetOk RetOkG RvDen Le Ev GuardIs SrcIs Int.tmod Int.tdiv IntKind.wrap
theorem o3 (n : Int) : FSpec Tryz.prog 95 [AV.int n] (AV.bool (isTxnR n)) := by
 refine D9 Tryz.func95 rfl Tryz.ntmps95 rfl ?_
 refine A3 (A2 ?_)
 refine A1 rfl rfl rfl (B8 rfl F0) ?_
 refine A5 (A3 (A2 ?_))
 refine A4 rfl rfl rfl rfl rfl ?_
 refine A1 rfl rfl rfl (D6 rfl Tryz.call94 rfl (W8 _ _ _) (A7 (A0 rfl) (A7 B5 (A7 B5 C0)))) ?_
 refine B2 rfl rfl rfl rfl rfl ?_
 refine A5 ?_
 refine C6 ?_
 exact H1 rfl (C3 rfl (by rfl))
theorem AV4 {r : TRec} (hs : r.size ≤ 1048576) : (∀ k ∈ r.Reads, k.length ≤ 4611686018427387904) ∧ sizeL TWrite.size r.Writes ≤ 1048576 ∧ r.Reads.length ≤ 1048576 ∧ r.Writes.length ≤ 1048576 := by
  unfold TRec.size at hs
  have h1 := P5 (f := fun x : Str => x.length) (l := r.Reads)
  have h2 := P5 (f := TWrite.size) (l := r.Writes)
  exact ⟨fun k hk => by have := o9 (f := fun x : Str => x.length) hk; omega, by omega, by omega, by omega⟩
theorem Aa3 (r : TRec) (hs : r.size ≤ 1048576) : FSpec Tryz.prog 83 [AV.agg r.cs] (AV.bool (goodRec r)) := by
 obtain ⟨hr1, hr2, hr3, hr4⟩ := AV4 hs
 refine D9 Tryz.func83 rfl Tryz.ntmps83 rfl ?_
 refine A3 (A2 ?_)
 refine J6 rfl rfl rfl rfl (A0 rfl) ?_
 intro b1
 refine A1 rfl rfl rfl (B8 rfl F0) ?_
 refine A5 (A3 (A2 ?_))
 refine A1 rfl rfl rfl (B6 3 rfl C5 rfl B9 (A0 rfl) rfl) ?_
 refine A1 rfl rfl rfl (B4 0 rfl (A0 rfl) rfl C7 rfl) ?_
 refine A1 rfl rfl rfl (M5 rfl (A0 rfl) B5) ?_
 refine A4 rfl rfl rfl rfl rfl ?_
 refine A9 rfl rfl (B1 rfl rfl rfl) (fun hc => B6 4 rfl C5 rfl L9 (A0 rfl) rfl) ?_
 refine A9 rfl rfl (B1 rfl rfl rfl) (fun hc => B4 0 rfl (A8 rfl hc) rfl P6 rfl) ?_
 refine A9 rfl rfl (B1 rfl rfl rfl) (fun hc => H3 rfl E2 (A8 rfl hc)) ?_
 refine A9 rfl rfl (B1 rfl rfl rfl) (fun hc => M5 rfl (A8 rfl hc) B5) ?_
 refine A1 rfl rfl rfl (G1 rfl (A0 rfl) (E3 rfl)) ?_
 refine A4 rfl rfl rfl rfl rfl ?_
 refine A9 rfl rfl (B1 rfl rfl rfl) (fun hc => B6 5 rfl C5 rfl J7 (A0 rfl) rfl) ?_
 refine A9 rfl rfl (B1 rfl rfl rfl) (fun hc => B4 0 rfl (A8 rfl hc) rfl L3 rfl) ?_
 refine A9 rfl rfl (B1 rfl rfl rfl) (fun hc => H3 rfl G4 (A8 rfl hc)) ?_
 refine A9 rfl rfl (B1 rfl rfl rfl) (fun hc => M5 rfl (A8 rfl hc) B5) ?_
 refine A1 rfl rfl rfl (G1 rfl (A0 rfl) (E3 rfl)) ?_
 refine B2 rfl rfl rfl rfl rfl ?_
 refine A5 (A3 (A3 (A2 ?_)))
 refine A1 rfl rfl rfl (B6 0 rfl C5 rfl B9 (A0 rfl) rfl) ?_
 refine A1 rfl rfl rfl (B4 0 rfl (A0 rfl) rfl C7 rfl) ?_
 refine A5 (D7 (A3 (A2 ?_)))
 refine A1 rfl rfl rfl (M5 rfl (A0 rfl) B5) ?_
 refine B2 rfl rfl rfl rfl rfl ?_
 refine A5 ?_
 refine C8 (A0 rfl) ?_ ?_
 ·intro h21
  have k21 := N6 h21; try simp only [A6] at k21
  refine A3 (A2 ?_)
  refine A1 rfl rfl rfl (B6 1 rfl C5 rfl B9 (A0 rfl) rfl) ?_
  refine A1 rfl rfl rfl (B4 0 rfl (A0 rfl) rfl C7 rfl) ?_
  refine A1 rfl rfl rfl (D6 rfl Tryz.call95 rfl (o3 _) (A7 (A0 rfl) C0)) ?_
  refine A4 rfl rfl rfl rfl rfl ?_
  refine A9 rfl rfl (B1 rfl rfl rfl) (fun hc => B6 2 rfl C5 rfl B9 (A0 rfl) rfl) ?_
  refine A9 rfl rfl (B1 rfl rfl rfl) (fun hc => B4 0 rfl (A8 rfl hc) rfl C7 rfl) ?_
  refine A9 rfl rfl (B1 rfl rfl rfl) (fun hc => D6 rfl Tryz.call134 rfl (W9 _) (A7 (A8 rfl hc) C0)) ?_
  refine A1 rfl rfl rfl (G1 rfl (A0 rfl) (E3 rfl)) ?_
  refine A4 rfl rfl rfl rfl rfl ?_
  refine A9 rfl rfl (B1 rfl rfl rfl) (fun hc => B6 3 rfl C5 rfl B9 (A0 rfl) rfl) ?_
  refine A9 rfl rfl (B1 rfl rfl rfl) (fun hc => B4 0 rfl (A8 rfl hc) rfl C7 rfl) ?_
  refine A9 rfl rfl (B1 rfl rfl rfl) (fun hc => D6 rfl Tryz.call94 rfl (W8 _ _ _) (A7 (A8 rfl hc) (A7 B5 (A7 B5 C0)))) ?_
  refine A1 rfl rfl rfl (G1 rfl (A0 rfl) (E3 rfl)) ?_
  refine A4 rfl rfl rfl rfl rfl ?_
  refine A9 rfl rfl (B1 rfl rfl rfl) (fun hc => B6 4 rfl C5 rfl L9 (A0 rfl) rfl) ?_
  refine A9 rfl rfl (B1 rfl rfl rfl) (fun hc => B4 0 rfl (A8 rfl hc) rfl P6 rfl) ?_
  refine A9 rfl rfl (B1 rfl rfl rfl) (fun hc => H3 rfl E2 (A8 rfl hc)) ?_
  refine A9 rfl rfl (B1 rfl rfl rfl) (fun hc => S0 rfl (A8 rfl hc) B5) ?_
  refine A1 rfl rfl rfl (G1 rfl (A0 rfl) (E3 rfl)) ?_
  refine A4 rfl rfl rfl rfl rfl ?_
  refine A9 rfl rfl (B1 rfl rfl rfl) (fun hc => B6 4 rfl C5 rfl L9 (A0 rfl) rfl) ?_
  refine A9 rfl rfl (B1 rfl rfl rfl) (fun hc => B4 0 rfl (A8 rfl hc) rfl P6 rfl) ?_
  refine A9 rfl rfl (B1 rfl rfl rfl) (fun hc => D6 rfl Tryz.call155 rfl (n2 r.Reads hr1) (A7 (A8 rfl hc) C0)) ?_
  refine A1 rfl rfl rfl (G1 rfl (A0 rfl) (E3 rfl)) ?_
  refine A4 rfl rfl rfl rfl rfl ?_
  refine A9 rfl rfl (B1 rfl rfl rfl) (fun hc => B6 5 rfl C5 rfl J7 (A0 rfl) rfl) ?_
  refine A9 rfl rfl (B1 rfl rfl rfl) (fun hc => B4 0 rfl (A8 rfl hc) rfl L3 rfl) ?_
  refine A9 rfl rfl (B1 rfl rfl rfl) (fun hc => H3 rfl G4 (A8 rfl hc)) ?_
  refine A9 rfl rfl (B1 rfl rfl rfl) (fun hc => S0 rfl (A8 rfl hc) B5) ?_
  refine A1 rfl rfl rfl (G1 rfl (A0 rfl) (E3 rfl)) ?_
  refine A4 rfl rfl rfl rfl rfl ?_
  refine A9 rfl rfl (B1 rfl rfl rfl) (fun hc => B6 5 rfl C5 rfl J7 (A0 rfl) rfl) ?_
  refine A9 rfl rfl (B1 rfl rfl rfl) (fun hc => B4 0 rfl (A8 rfl hc) rfl L3 rfl) ?_
  refine A9 rfl rfl (B1 rfl rfl rfl) (fun hc => D6 rfl Tryz.call177 rfl (AP4 r.Writes (by omega)) (A7 (A8 rfl hc) C0)) ?_
  refine A1 rfl rfl rfl (G1 rfl (A0 rfl) (E3 rfl)) ?_
  refine A4 rfl rfl rfl rfl rfl ?_
  refine A9 rfl rfl (B1 rfl rfl rfl) (fun hc => B6 4 rfl C5 rfl L9 (A0 rfl) rfl) ?_
  refine A9 rfl rfl (B1 rfl rfl rfl) (fun hc => B4 0 rfl (A8 rfl hc) rfl P6 rfl) ?_
  refine A9 rfl rfl (B1 rfl rfl rfl) (fun hc => H3 rfl E2 (A8 rfl hc)) ?_
  refine A9 rfl rfl (B1 rfl rfl rfl) (fun hc => B6 5 rfl C5 rfl J7 (A0 rfl) rfl) ?_
  refine A9 rfl rfl (B1 rfl rfl rfl) (fun hc => B4 0 rfl (A8 rfl hc) rfl L3 rfl) ?_
  refine A9 rfl rfl (B1 rfl rfl rfl) (fun hc => H3 rfl G4 (A8 rfl hc)) ?_
  refine A9 rfl rfl (B1 rfl rfl rfl) (fun hc => G5 rfl (A8 rfl hc) (A8 rfl hc) (by first | omega | ((try simp only [A6, B0, B7, C1, B3, szR] at *); omega) | (have hc2 := hc; simp only [Bool.and_eq_true, Bool.or_eq_true, Bool.or_eq_false_iff, Bool.and_eq_false_iff, Bool.not_eq_true', Bool.not_eq_false', decide_eq_true_eq, decide_eq_false_iff_not, beq_iff_eq, bne_iff_ne, A6, B0] at hc2; omega))) ?_
  refine A9 rfl rfl (B1 rfl rfl rfl) (fun hc => O5 rfl (A8 rfl hc) B5) ?_
  refine A1 rfl rfl rfl (G1 rfl (A0 rfl) (E3 rfl)) ?_
  refine A4 rfl rfl rfl rfl rfl ?_
  refine A9 rfl rfl (B1 rfl rfl rfl) (fun hc => B6 6 rfl C5 rfl K5 (A0 rfl) rfl) ?_
  refine A9 rfl rfl (B1 rfl rfl rfl) (fun hc => B4 0 rfl (A8 rfl hc) rfl M6 rfl) ?_
  refine A9 rfl rfl (B1 rfl rfl rfl) (fun hc => I4 rfl (A8 rfl hc)) ?_
  refine A1 rfl rfl rfl (G1 rfl (A0 rfl) (E3 rfl)) ?_
  refine B2 rfl rfl rfl rfl rfl ?_
  refine A5 ?_
  refine C6 ?_
  exact H1 rfl (C3 rfl (by first | (exfalso; omega) | exact congrArg AV.bool (by unfold goodRec good1 good2 good4 bareR; simp [*])))
 ·intro h21
  have k21 := N5 h21; try simp only [A6] at k21
  refine A3 (A3 (A2 ?_))
  refine A1 rfl rfl rfl (M5 rfl (A0 rfl) B5) ?_
  refine B2 rfl rfl rfl rfl rfl ?_
  refine A5 ?_
  refine C8 (A0 rfl) ?_ ?_
  ·intro h73
   have k73 := N6 h73; try simp only [A6] at k73
   refine D1 ?_
   refine C8 (A0 rfl) ?_ ?_
   ·intro h73
    have k73 := N6 h73; try simp only [A6] at k73
    refine A3 (A2 ?_)
    refine A4 rfl rfl rfl rfl rfl ?_
    refine A4 rfl rfl rfl rfl rfl ?_
    refine A9 rfl rfl (B1 rfl rfl rfl) (fun hc => B6 1 rfl C5 rfl B9 (A0 rfl) rfl) ?_
    refine A9 rfl rfl (B1 rfl rfl rfl) (fun hc => B4 0 rfl (A8 rfl hc) rfl C7 rfl) ?_
    refine A9 rfl rfl (B1 rfl rfl rfl) (fun hc => D6 rfl Tryz.call95 rfl (o3 _) (A7 (A8 rfl hc) C0)) ?_
    refine A1 rfl rfl rfl (G1 rfl (A0 rfl) (E3 rfl)) ?_
    refine A4 rfl rfl rfl rfl rfl ?_
    refine A9 rfl rfl (B1 rfl rfl rfl) (fun hc => B6 6 rfl C5 rfl K5 (A0 rfl) rfl) ?_
    refine A9 rfl rfl (B1 rfl rfl rfl) (fun hc => B4 0 rfl (A8 rfl hc) rfl M6 rfl) ?_
    refine A9 rfl rfl (B1 rfl rfl rfl) (fun hc => C4 rfl (A8 rfl hc)) ?_
    refine A9 rfl rfl (E0 rfl rfl rfl) (fun hc => B6 2 rfl C5 rfl B9 (A0 rfl) rfl) ?_
    refine A9 rfl rfl (E0 rfl rfl rfl) (fun hc => B4 0 rfl (A8 rfl hc) rfl C7 rfl) ?_
    refine A9 rfl rfl (E0 rfl rfl rfl) (fun hc => D6 rfl Tryz.call134 rfl (W9 _) (A7 (A8 rfl hc) C0)) ?_
    refine A9 rfl rfl (B1 rfl rfl rfl) (fun hc => G1 rfl (A8 rfl hc) (Q1 rfl hc)) ?_
    refine A9 rfl rfl (B1 rfl rfl rfl) (fun hc => C4 rfl (A8 rfl hc)) ?_
    refine A9 rfl rfl (O7 rfl rfl rfl) (fun hc => B6 6 rfl C5 rfl K5 (A0 rfl) rfl) ?_
    refine A9 rfl rfl (O7 rfl rfl rfl) (fun hc => B4 0 rfl (A8 rfl hc) rfl M6 rfl) ?_
    refine A9 rfl rfl (O7 rfl rfl rfl) (fun hc => I4 rfl (A8 rfl hc)) ?_
    refine A9 rfl rfl (O7 rfl rfl rfl) (fun hc => C4 rfl (A8 rfl hc)) ?_
    refine A9 rfl rfl (E0 rfl rfl rfl) (fun hc => B6 2 rfl C5 rfl B9 (A0 rfl) rfl) ?_
    refine A9 rfl rfl (E0 rfl rfl rfl) (fun hc => B4 0 rfl (A8 rfl hc) rfl C7 rfl) ?_
    refine A9 rfl rfl (E0 rfl rfl rfl) (fun hc => M5 rfl (A8 rfl hc) B5) ?_
    refine A9 rfl rfl (O7 rfl rfl rfl) (fun hc => G1 rfl (A8 rfl hc) (Q1 rfl hc)) ?_
    refine A9 rfl rfl (B1 rfl rfl rfl) (fun hc => N4 rfl (A8 rfl hc) (Q1 rfl hc)) ?_
    refine A1 rfl rfl rfl (G1 rfl (A0 rfl) (E3 rfl)) ?_
    refine B2 rfl rfl rfl rfl rfl ?_
    refine A5 ?_
    refine C6 ?_
    exact H1 rfl (C3 rfl (by first | (exfalso; omega) | exact congrArg AV.bool (by unfold goodRec good1 good2 good4 bareR; simp [*])))
   ·intro h73
    have k73 := N5 h73; try simp only [A6] at k73
    refine A3 (A2 ?_)
    refine A1 rfl rfl rfl (M5 rfl (A0 rfl) B5) ?_
    refine B2 rfl rfl rfl rfl rfl ?_
    refine A5 ?_
    refine C8 (A0 rfl) ?_ ?_
    ·intro h101
     have k101 := N6 h101; try simp only [A6] at k101
     refine A3 (A2 ?_)
     refine A4 rfl rfl rfl rfl rfl ?_
     refine A4 rfl rfl rfl rfl rfl ?_
     refine A9 rfl rfl (B1 rfl rfl rfl) (fun hc => B6 1 rfl C5 rfl B9 (A0 rfl) rfl) ?_
     refine A9 rfl rfl (B1 rfl rfl rfl) (fun hc => B4 0 rfl (A8 rfl hc) rfl C7 rfl) ?_
     refine A9 rfl rfl (B1 rfl rfl rfl) (fun hc => M5 rfl (A8 rfl hc) B5) ?_
     refine A1 rfl rfl rfl (G1 rfl (A0 rfl) (E3 rfl)) ?_
     refine A4 rfl rfl rfl rfl rfl ?_
     refine A9 rfl rfl (B1 rfl rfl rfl) (fun hc => B6 2 rfl C5 rfl B9 (A0 rfl) rfl) ?_
     refine A9 rfl rfl (B1 rfl rfl rfl) (fun hc => B4 0 rfl (A8 rfl hc) rfl C7 rfl) ?_
     refine A9 rfl rfl (B1 rfl rfl rfl) (fun hc => D6 rfl Tryz.call134 rfl (W9 _) (A7 (A8 rfl hc) C0)) ?_
     refine A1 rfl rfl rfl (G1 rfl (A0 rfl) (E3 rfl)) ?_
     refine A4 rfl rfl rfl rfl rfl ?_
     refine A9 rfl rfl (B1 rfl rfl rfl) (fun hc => B6 6 rfl C5 rfl K5 (A0 rfl) rfl) ?_
     refine A9 rfl rfl (B1 rfl rfl rfl) (fun hc => B4 0 rfl (A8 rfl hc) rfl M6 rfl) ?_
     refine A9 rfl rfl (B1 rfl rfl rfl) (fun hc => I4 rfl (A8 rfl hc)) ?_
     refine A1 rfl rfl rfl (G1 rfl (A0 rfl) (E3 rfl)) ?_
     refine B2 rfl rfl rfl rfl rfl ?_
     refine A5 ?_
     refine C6 ?_
     exact H1 rfl (C3 rfl (by first | (exfalso; omega) | exact congrArg AV.bool (by unfold goodRec good1 good2 good4 bareR; simp [*])))
    ·intro h101
     have k101 := N5 h101; try simp only [A6] at k101
     refine D1 (A3 (A2 ?_))
     refine A1 rfl rfl rfl (B8 rfl F0) ?_
     refine A5 ?_
     refine C6 ?_
     exact H1 rfl (C3 rfl (by first | (exfalso; omega) | exact congrArg AV.bool (by unfold goodRec good1 good2 good4 bareR; simp [*])))
  ·intro h73
   have k73 := N5 h73; try simp only [A6] at k73
   refine A2 ?_
   refine A1 rfl rfl rfl (M5 rfl (A0 rfl) B5) ?_
   refine B2 rfl rfl rfl rfl rfl ?_
   refine A5 ?_
   refine C8 (A0 rfl) ?_ ?_
   ·intro h73
    have k73 := N6 h73; try simp only [A6] at k73
    refine A3 (A2 ?_)
    refine A4 rfl rfl rfl rfl rfl ?_
    refine A4 rfl rfl rfl rfl rfl ?_
    refine A9 rfl rfl (B1 rfl rfl rfl) (fun hc => B6 1 rfl C5 rfl B9 (A0 rfl) rfl) ?_
    refine A9 rfl rfl (B1 rfl rfl rfl) (fun hc => B4 0 rfl (A8 rfl hc) rfl C7 rfl) ?_
    refine A9 rfl rfl (B1 rfl rfl rfl) (fun hc => D6 rfl Tryz.call95 rfl (o3 _) (A7 (A8 rfl hc) C0)) ?_
    refine A1 rfl rfl rfl (G1 rfl (A0 rfl) (E3 rfl)) ?_
    refine A4 rfl rfl rfl rfl rfl ?_
    refine A9 rfl rfl (B1 rfl rfl rfl) (fun hc => B6 6 rfl C5 rfl K5 (A0 rfl) rfl) ?_
    refine A9 rfl rfl (B1 rfl rfl rfl) (fun hc => B4 0 rfl (A8 rfl hc) rfl M6 rfl) ?_
    refine A9 rfl rfl (B1 rfl rfl rfl) (fun hc => C4 rfl (A8 rfl hc)) ?_
    refine A9 rfl rfl (E0 rfl rfl rfl) (fun hc => B6 2 rfl C5 rfl B9 (A0 rfl) rfl) ?_
    refine A9 rfl rfl (E0 rfl rfl rfl) (fun hc => B4 0 rfl (A8 rfl hc) rfl C7 rfl) ?_
    refine A9 rfl rfl (E0 rfl rfl rfl) (fun hc => D6 rfl Tryz.call134 rfl (W9 _) (A7 (A8 rfl hc) C0)) ?_
    refine A9 rfl rfl (B1 rfl rfl rfl) (fun hc => G1 rfl (A8 rfl hc) (Q1 rfl hc)) ?_
    refine A9 rfl rfl (B1 rfl rfl rfl) (fun hc => C4 rfl (A8 rfl hc)) ?_
    refine A9 rfl rfl (O7 rfl rfl rfl) (fun hc => B6 6 rfl C5 rfl K5 (A0 rfl) rfl) ?_
    refine A9 rfl rfl (O7 rfl rfl rfl) (fun hc => B4 0 rfl (A8 rfl hc) rfl M6 rfl) ?_
    refine A9 rfl rfl (O7 rfl rfl rfl) (fun hc => I4 rfl (A8 rfl hc)) ?_
    refine A9 rfl rfl (O7 rfl rfl rfl) (fun hc => C4 rfl (A8 rfl hc)) ?_
    refine A9 rfl rfl (E0 rfl rfl rfl) (fun hc => B6 2 rfl C5 rfl B9 (A0 rfl) rfl) ?_
    refine A9 rfl rfl (E0 rfl rfl rfl) (fun hc => B4 0 rfl (A8 rfl hc) rfl C7 rfl) ?_
    refine A9 rfl rfl (E0 rfl rfl rfl) (fun hc => M5 rfl (A8 rfl hc) B5) ?_
    refine A9 rfl rfl (O7 rfl rfl rfl) (fun hc => G1 rfl (A8 rfl hc) (Q1 rfl hc)) ?_
    refine A9 rfl rfl (B1 rfl rfl rfl) (fun hc => N4 rfl (A8 rfl hc) (Q1 rfl hc)) ?_
    refine A1 rfl rfl rfl (G1 rfl (A0 rfl) (E3 rfl)) ?_
    refine B2 rfl rfl rfl rfl rfl ?_
    refine A5 ?_
    refine C6 ?_
    exact H1 rfl (C3 rfl (by first | (exfalso; omega) | exact congrArg AV.bool (by unfold goodRec good1 good2 good4 bareR; simp [*])))
   ·intro h73
    have k73 := N5 h73; try simp only [A6] at k73
    refine A3 (A2 ?_)
    refine A1 rfl rfl rfl (M5 rfl (A0 rfl) B5) ?_
    refine B2 rfl rfl rfl rfl rfl ?_
    refine A5 ?_
    refine C8 (A0 rfl) ?_ ?_
    ·intro h101
     have k101 := N6 h101; try simp only [A6] at k101
     refine A3 (A2 ?_)
     refine A4 rfl rfl rfl rfl rfl ?_
     refine A4 rfl rfl rfl rfl rfl ?_
     refine A9 rfl rfl (B1 rfl rfl rfl) (fun hc => B6 1 rfl C5 rfl B9 (A0 rfl) rfl) ?_
     refine A9 rfl rfl (B1 rfl rfl rfl) (fun hc => B4 0 rfl (A8 rfl hc) rfl C7 rfl) ?_
     refine A9 rfl rfl (B1 rfl rfl rfl) (fun hc => M5 rfl (A8 rfl hc) B5) ?_
     refine A1 rfl rfl rfl (G1 rfl (A0 rfl) (E3 rfl)) ?_
     refine A4 rfl rfl rfl rfl rfl ?_
     refine A9 rfl rfl (B1 rfl rfl rfl) (fun hc => B6 2 rfl C5 rfl B9 (A0 rfl) rfl) ?_
     refine A9 rfl rfl (B1 rfl rfl rfl) (fun hc => B4 0 rfl (A8 rfl hc) rfl C7 rfl) ?_
     refine A9 rfl rfl (B1 rfl rfl rfl) (fun hc => D6 rfl Tryz.call134 rfl (W9 _) (A7 (A8 rfl hc) C0)) ?_
     refine A1 rfl rfl rfl (G1 rfl (A0 rfl) (E3 rfl)) ?_
     refine A4 rfl rfl rfl rfl rfl ?_
     refine A9 rfl rfl (B1 rfl rfl rfl) (fun hc => B6 6 rfl C5 rfl K5 (A0 rfl) rfl) ?_
     refine A9 rfl rfl (B1 rfl rfl rfl) (fun hc => B4 0 rfl (A8 rfl hc) rfl M6 rfl) ?_
     refine A9 rfl rfl (B1 rfl rfl rfl) (fun hc => I4 rfl (A8 rfl hc)) ?_
     refine A1 rfl rfl rfl (G1 rfl (A0 rfl) (E3 rfl)) ?_
     refine B2 rfl rfl rfl rfl rfl ?_
     refine A5 ?_
     refine C6 ?_
     exact H1 rfl (C3 rfl (by first | (exfalso; omega) | exact congrArg AV.bool (by unfold goodRec good1 good2 good4 bareR; simp [*])))
    ·intro h101
     have k101 := N5 h101; try simp only [A6] at k101
     refine D1 (A3 (A2 ?_))
     refine A1 rfl rfl rfl (B8 rfl F0) ?_
     refine A5 ?_
     refine C6 ?_
     exact H1 rfl (C3 rfl (by first | (exfalso; omega) | exact congrArg AV.bool (by unfold goodRec good1 good2 good4 bareR; simp [*])))
theorem Ad9 (l : List Str) (hs : ∀ k ∈ l, k.length ≤ 4611686018427387904) : FSpec Tryz.prog 178 [strs l] (AV.bool (l4Keys l)) := by
 refine D9 Tryz.func178 rfl Tryz.ntmps178 rfl ?_
 refine S4 (t := 0) rfl fun hl => ?_
 try simp only [A6] at hl
 refine A3 (A2 ?_)
 refine A1 rfl rfl rfl (B8 rfl F0) ?_
 refine A5 (A3 (A3 (A2 ?_)))
 refine A4 rfl rfl rfl rfl rfl ?_
 refine A1 rfl rfl rfl (H3 rfl E2 (A0 rfl)) ?_
 refine A1 rfl rfl rfl (C4 rfl B5) ?_
 refine A5 (D7 ?_)
 refine J0 [(0, _), (5, _), (6, _)] _ (fun (i : Nat) => i ≤ l.length ∧ (l.all l3Key && adj Op.bytesLess l) = ((l.drop i).all l3Key && adj Op.bytesLess (l.drop (i - 1)))) (fun (i : Nat) => []) (fun (i : Nat) => [(7, AV.int i)]) (fun (i : Nat) => l.length - i) (0) ?_ (J1 ⟨rfl, rfl, rfl, rfl, trivial⟩) ?_
 ·exact ⟨Nat.zero_le _, rfl⟩
 intro i hinv
 refine A3 (A2 ?_)
 refine A1 rfl rfl rfl (J8 rfl (A0 rfl) (A0 rfl)) ?_
 refine A5 (A3 ?_)
 refine C8 (A0 rfl) ?_ ?_
 ·intro h8
  have k8 := of_decide_eq_true h8; try simp only [A6] at k8
  have hlt : i < l.length := by omega
  obtain ⟨x, hx⟩ := get_some hlt
  obtain ⟨y, hy⟩ := get_some (show i - 1 < l.length by omega)
  have hsx := hs x (G6 hx)
  refine D1 (A3 (D7 (A3 (A2 ?_))))
  refine A4 rfl rfl rfl rfl rfl ?_
  refine A1 rfl rfl rfl (q6 rfl E2 F5 (A0 rfl) (A0 rfl) (by omega) (by simp only [Int.toNat_natCast, List.getElem?_map, hx, Option.map_some]; try rfl)) ?_
  refine A1 rfl rfl rfl (L6 rfl (A0 rfl) H0 rfl) ?_
  refine B2 rfl rfl rfl rfl rfl ?_
  refine B2 rfl rfl rfl rfl rfl ?_
  refine A5 (A3 (A2 ?_))
  refine A4 rfl rfl rfl rfl rfl ?_
  refine A1 rfl rfl rfl (D6 rfl Tryz.call119 rfl (q9 _ (by omega)) (A7 (A0 rfl) C0)) ?_
  refine A1 rfl rfl rfl (I4 rfl (A0 rfl)) ?_
  refine A4 rfl rfl rfl rfl rfl ?_
  refine A9 rfl rfl (C9 rfl rfl rfl) (fun hc => C4 rfl (A0 rfl)) ?_
  refine A9 rfl rfl (C9 rfl rfl rfl) (fun hc => O5 rfl (A8 rfl hc) B5) ?_
  refine A9 rfl rfl (C9 rfl rfl rfl) (fun hc => C4 rfl (A8 rfl hc)) ?_
  refine A9 rfl rfl (E0 rfl rfl rfl) (fun hc => C4 rfl (A0 rfl)) ?_
  refine A9 rfl rfl (E0 rfl rfl rfl) (fun hc => C4 rfl (A0 rfl)) ?_
  refine A9 rfl rfl (E0 rfl rfl rfl) (fun hc => N1 rfl (A8 rfl hc) B5 (by first | omega | ((try simp only [A6, B0, B7, C1, B3, szR] at *); omega) | (have hc2 := hc; simp only [Bool.and_eq_true, Bool.or_eq_true, Bool.or_eq_false_iff, Bool.and_eq_false_iff, Bool.not_eq_true', Bool.not_eq_false', decide_eq_true_eq, decide_eq_false_iff_not, beq_iff_eq, bne_iff_ne, A6, B0] at hc2; omega))) ?_
  refine A9 rfl rfl (E0 rfl rfl rfl) (fun hc => q6 rfl E2 F5 (A8 rfl hc) (A8 rfl hc) (by have := of_decide_eq_true (and_r hc); omega) (by have := of_decide_eq_true (and_r hc); rw [show ((i : Int) - 1).toNat = i - 1 by omega]; simp only [List.getElem?_map, hy, Option.map_some]; try rfl)) ?_
  refine A9 rfl rfl (E0 rfl rfl rfl) (fun hc => L6 rfl (A8 rfl hc) H0 rfl) ?_
  refine A9 rfl rfl (E0 rfl rfl rfl) (fun hc => C4 rfl (A0 rfl)) ?_
  refine A9 rfl rfl (E0 rfl rfl rfl) (fun hc => AY9 rfl (A8 rfl hc) (A8 rfl hc)) ?_
  refine A9 rfl rfl (C9 rfl rfl rfl) (fun hc => G1 rfl (A8 rfl hc) (Q1 rfl hc)) ?_
  refine A1 rfl rfl rfl (N4 rfl (A0 rfl) (E3 rfl)) ?_
  refine A5 ?_
  refine C8 (A0 rfl) ?_ ?_
  ·intro h27
   have hfin : (l.all l3Key && adj Op.bytesLess l) = false := by rw [hinv.2, drop_some hx, List.all_cons]; cases hg : l3Key x with | false => simp | true => (simp only [hg, Bool.not_true, Bool.false_or, Bool.and_eq_true, decide_eq_true_eq, Bool.not_eq_true'] at h27; rw [m9 hx hy (by omega) h27.2]; simp)
   refine A3 (A2 ?_)
   refine A1 rfl rfl rfl (B8 rfl F0) ?_
   refine A5 ?_
   refine C6 ?_
   exact H1 rfl (C3 rfl (by first | exact congrArg AV.bool (by unfold l4Keys; rw [hfin]; rfl) | exact congrArg AV.bool (by unfold l4Keys; rw [hinv.2, Z1 hge, List.drop_eq_nil_of_le hge]; simp)))
  ·intro h27
   refine D1 (A2 ?_)
   refine A1 rfl rfl rfl (G5 rfl (A0 rfl) B5 (by first | omega | (simp only [A6, B0, B7, C1, B3, szR] at *; omega))) ?_
   refine A4 rfl rfl rfl rfl rfl ?_
   refine A5 ?_
   refine L2 i (i + 1) ?_ ?_ (J1 ⟨rfl, rfl, rfl, rfl, trivial⟩)
   ·exact ⟨by omega, by rw [hinv.2, drop_some hx, List.all_cons, m8 hx hy (fun h0 => by simp_all), show l3Key x = true by simp_all, Bool.true_and]⟩
   ·omega
 ·intro h8
  have k8 := of_decide_eq_false h8; try simp only [A6] at k8
  have hge : l.length ≤ i := by omega
  refine H4 ?_
  refine A3 (A2 ?_)
  refine A4 rfl rfl rfl rfl rfl ?_
  refine A1 rfl rfl rfl (H3 rfl E2 (A0 rfl)) ?_
  refine A1 rfl rfl rfl (S0 rfl (A0 rfl) B5) ?_
  refine B2 rfl rfl rfl rfl rfl ?_
  refine A5 ?_
  refine C6 ?_
  exact H1 rfl (C3 rfl (by first | exact congrArg AV.bool (by unfold l4Keys; rw [hfin]; rfl) | exact congrArg AV.bool (by unfold l4Keys; rw [hinv.2, Z1 hge, List.drop_eq_nil_of_le hge]; simp)))
theorem Ae0 (r : TRec) (hs : r.size ≤ 1048576) : FSpec Tryz.prog 85 [AV.agg r.cs] (AV.bool (l4Good r)) := by
 obtain ⟨hr1, hr2, hr3, hr4⟩ := AV4 hs
 refine D9 Tryz.func85 rfl Tryz.ntmps85 rfl ?_
 refine A3 (A2 ?_)
 refine J6 rfl rfl rfl rfl (A0 rfl) ?_
 intro b1
 refine A1 rfl rfl rfl (B8 rfl F0) ?_
 refine A5 (A3 (A3 (A2 ?_)))
 refine A1 rfl rfl rfl (B6 0 rfl C5 rfl B9 (A0 rfl) rfl) ?_
 refine A1 rfl rfl rfl (B4 0 rfl (A0 rfl) rfl C7 rfl) ?_
 refine A1 rfl rfl rfl (AI2 rfl (A0 rfl) B5) ?_
 refine A4 rfl rfl rfl rfl rfl ?_
 refine A9 rfl rfl (B1 rfl rfl rfl) (fun hc => B6 3 rfl C5 rfl B9 (A0 rfl) rfl) ?_
 refine A9 rfl rfl (B1 rfl rfl rfl) (fun hc => B4 0 rfl (A8 rfl hc) rfl C7 rfl) ?_
 refine A9 rfl rfl (B1 rfl rfl rfl) (fun hc => AI2 rfl (A8 rfl hc) B5) ?_
 refine A9 rfl rfl (B1 rfl rfl rfl) (fun hc => C4 rfl (A8 rfl hc)) ?_
 refine A9 rfl rfl (O7 rfl rfl rfl) (fun hc => B6 4 rfl C5 rfl L9 (A0 rfl) rfl) ?_
 refine A9 rfl rfl (O7 rfl rfl rfl) (fun hc => B4 0 rfl (A8 rfl hc) rfl P6 rfl) ?_
 refine A9 rfl rfl (O7 rfl rfl rfl) (fun hc => H3 rfl E2 (A8 rfl hc)) ?_
 refine A9 rfl rfl (O7 rfl rfl rfl) (fun hc => B6 5 rfl C5 rfl J7 (A0 rfl) rfl) ?_
 refine A9 rfl rfl (O7 rfl rfl rfl) (fun hc => B4 0 rfl (A8 rfl hc) rfl L3 rfl) ?_
 refine A9 rfl rfl (O7 rfl rfl rfl) (fun hc => H3 rfl G4 (A8 rfl hc)) ?_
 refine A9 rfl rfl (O7 rfl rfl rfl) (fun hc => G5 rfl (A8 rfl hc) (A8 rfl hc) (by first | omega | ((try simp only [A6, B0, B7, C1, B3, szR] at *); omega) | (have hc2 := hc; simp only [Bool.and_eq_true, Bool.or_eq_true, Bool.or_eq_false_iff, Bool.and_eq_false_iff, Bool.not_eq_true', Bool.not_eq_false', decide_eq_true_eq, decide_eq_false_iff_not, beq_iff_eq, bne_iff_ne, A6, B0] at hc2; omega))) ?_
 refine A9 rfl rfl (O7 rfl rfl rfl) (fun hc => O5 rfl (A8 rfl hc) B5) ?_
 refine A9 rfl rfl (B1 rfl rfl rfl) (fun hc => N4 rfl (A8 rfl hc) (Q1 rfl hc)) ?_
 refine A1 rfl rfl rfl (G1 rfl (A0 rfl) (E3 rfl)) ?_
 refine A5 ?_
 refine C8 (A0 rfl) ?_ ?_
 ·intro h20
  have ho : oddR r = true := by (unfold oddR; simpa using h20)
  refine A3 (A2 ?_)
  refine A1 rfl rfl rfl (B8 rfl F0) ?_
  refine A5 ?_
  refine C6 ?_
  exact H1 rfl (C3 rfl (by first | (exfalso; omega) | exact congrArg AV.bool (by unfold l4Good; rw [ho]; first | rfl | (unfold l4G1 l4G2 l4G4; simp [*]))))
 ·intro h20
  have ho : oddR r = false := by (unfold oddR; simpa using h20)
  refine D1 (A3 (A3 (A2 ?_)))
  refine A1 rfl rfl rfl (B6 0 rfl C5 rfl B9 (A0 rfl) rfl) ?_
  refine A1 rfl rfl rfl (B4 0 rfl (A0 rfl) rfl C7 rfl) ?_
  refine A5 (D7 (A3 (A2 ?_)))
  refine A1 rfl rfl rfl (M5 rfl (A0 rfl) B5) ?_
  refine B2 rfl rfl rfl rfl rfl ?_
  refine A5 ?_
  refine C8 (A0 rfl) ?_ ?_
  ·intro h23
   have k23 := N6 h23; try simp only [A6] at k23
   refine A3 (A2 ?_)
   refine A1 rfl rfl rfl (B6 1 rfl C5 rfl B9 (A0 rfl) rfl) ?_
   refine A1 rfl rfl rfl (B4 0 rfl (A0 rfl) rfl C7 rfl) ?_
   refine A1 rfl rfl rfl (D6 rfl Tryz.call137 rfl (T8 _ _ _) (A7 (A0 rfl) (A7 B5 (A7 B5 C0)))) ?_
   refine A4 rfl rfl rfl rfl rfl ?_
   refine A9 rfl rfl (B1 rfl rfl rfl) (fun hc => B6 2 rfl C5 rfl B9 (A0 rfl) rfl) ?_
   refine A9 rfl rfl (B1 rfl rfl rfl) (fun hc => B4 0 rfl (A8 rfl hc) rfl C7 rfl) ?_
   refine A9 rfl rfl (B1 rfl rfl rfl) (fun hc => D6 rfl Tryz.call147 rfl (Z8 _) (A7 (A8 rfl hc) C0)) ?_
   refine A1 rfl rfl rfl (G1 rfl (A0 rfl) (E3 rfl)) ?_
   refine A4 rfl rfl rfl rfl rfl ?_
   refine A9 rfl rfl (B1 rfl rfl rfl) (fun hc => B6 3 rfl C5 rfl B9 (A0 rfl) rfl) ?_
   refine A9 rfl rfl (B1 rfl rfl rfl) (fun hc => B4 0 rfl (A8 rfl hc) rfl C7 rfl) ?_
   refine A9 rfl rfl (B1 rfl rfl rfl) (fun hc => D6 rfl Tryz.call137 rfl (T8 _ _ _) (A7 (A8 rfl hc) (A7 B5 (A7 B5 C0)))) ?_
   refine A1 rfl rfl rfl (G1 rfl (A0 rfl) (E3 rfl)) ?_
   refine A4 rfl rfl rfl rfl rfl ?_
   refine A9 rfl rfl (B1 rfl rfl rfl) (fun hc => B6 4 rfl C5 rfl L9 (A0 rfl) rfl) ?_
   refine A9 rfl rfl (B1 rfl rfl rfl) (fun hc => B4 0 rfl (A8 rfl hc) rfl P6 rfl) ?_
   refine A9 rfl rfl (B1 rfl rfl rfl) (fun hc => D6 rfl Tryz.call178 rfl (Ad9 r.Reads hr1) (A7 (A8 rfl hc) C0)) ?_
   refine A1 rfl rfl rfl (G1 rfl (A0 rfl) (E3 rfl)) ?_
   refine A4 rfl rfl rfl rfl rfl ?_
   refine A9 rfl rfl (B1 rfl rfl rfl) (fun hc => B6 5 rfl C5 rfl J7 (A0 rfl) rfl) ?_
   refine A9 rfl rfl (B1 rfl rfl rfl) (fun hc => B4 0 rfl (A8 rfl hc) rfl L3 rfl) ?_
   refine A9 rfl rfl (B1 rfl rfl rfl) (fun hc => D6 rfl Tryz.call166 rfl (AW8 r.Writes (by omega)) (A7 (A8 rfl hc) C0)) ?_
   refine A1 rfl rfl rfl (G1 rfl (A0 rfl) (E3 rfl)) ?_
   refine A4 rfl rfl rfl rfl rfl ?_
   refine A9 rfl rfl (B1 rfl rfl rfl) (fun hc => B6 5 rfl C5 rfl J7 (A0 rfl) rfl) ?_
   refine A9 rfl rfl (B1 rfl rfl rfl) (fun hc => B4 0 rfl (A8 rfl hc) rfl L3 rfl) ?_
   refine A9 rfl rfl (B1 rfl rfl rfl) (fun hc => H3 rfl G4 (A8 rfl hc)) ?_
   refine A9 rfl rfl (B1 rfl rfl rfl) (fun hc => D6 rfl Tryz.call137 rfl (T8 _ _ _) (A7 (A8 rfl hc) (A7 B5 (A7 B5 C0)))) ?_
   refine A1 rfl rfl rfl (G1 rfl (A0 rfl) (E3 rfl)) ?_
   refine A4 rfl rfl rfl rfl rfl ?_
   refine A9 rfl rfl (B1 rfl rfl rfl) (fun hc => B6 4 rfl C5 rfl L9 (A0 rfl) rfl) ?_
   refine A9 rfl rfl (B1 rfl rfl rfl) (fun hc => B4 0 rfl (A8 rfl hc) rfl P6 rfl) ?_
   refine A9 rfl rfl (B1 rfl rfl rfl) (fun hc => H3 rfl E2 (A8 rfl hc)) ?_
   refine A9 rfl rfl (B1 rfl rfl rfl) (fun hc => B6 5 rfl C5 rfl J7 (A0 rfl) rfl) ?_
   refine A9 rfl rfl (B1 rfl rfl rfl) (fun hc => B4 0 rfl (A8 rfl hc) rfl L3 rfl) ?_
   refine A9 rfl rfl (B1 rfl rfl rfl) (fun hc => H3 rfl G4 (A8 rfl hc)) ?_
   refine A9 rfl rfl (B1 rfl rfl rfl) (fun hc => G5 rfl (A8 rfl hc) (A8 rfl hc) (by first | omega | ((try simp only [A6, B0, B7, C1, B3, szR] at *); omega) | (have hc2 := hc; simp only [Bool.and_eq_true, Bool.or_eq_true, Bool.or_eq_false_iff, Bool.and_eq_false_iff, Bool.not_eq_true', Bool.not_eq_false', decide_eq_true_eq, decide_eq_false_iff_not, beq_iff_eq, bne_iff_ne, A6, B0] at hc2; omega))) ?_
   refine A9 rfl rfl (B1 rfl rfl rfl) (fun hc => O5 rfl (A8 rfl hc) B5) ?_
   refine A1 rfl rfl rfl (G1 rfl (A0 rfl) (E3 rfl)) ?_
   refine A4 rfl rfl rfl rfl rfl ?_
   refine A9 rfl rfl (B1 rfl rfl rfl) (fun hc => B6 6 rfl C5 rfl K5 (A0 rfl) rfl) ?_
   refine A9 rfl rfl (B1 rfl rfl rfl) (fun hc => B4 0 rfl (A8 rfl hc) rfl M6 rfl) ?_
   refine A9 rfl rfl (B1 rfl rfl rfl) (fun hc => I4 rfl (A8 rfl hc)) ?_
   refine A1 rfl rfl rfl (G1 rfl (A0 rfl) (E3 rfl)) ?_
   refine B2 rfl rfl rfl rfl rfl ?_
   refine A5 ?_
   refine C6 ?_
   exact H1 rfl (C3 rfl (by first | (exfalso; omega) | exact congrArg AV.bool (by unfold l4Good; rw [ho]; first | rfl | (unfold l4G1 l4G2 l4G4; simp [*]))))
  ·intro h23
   have k23 := N5 h23; try simp only [A6] at k23
   refine A3 (A3 (A2 ?_))
   refine A1 rfl rfl rfl (M5 rfl (A0 rfl) B5) ?_
   refine B2 rfl rfl rfl rfl rfl ?_
   refine A5 ?_
   refine C8 (A0 rfl) ?_ ?_
   ·intro h69
    have k69 := N6 h69; try simp only [A6] at k69
    refine D1 ?_
    refine C8 (A0 rfl) ?_ ?_
    ·intro h69
     have k69 := N6 h69; try simp only [A6] at k69
     refine A3 (A2 ?_)
     refine A1 rfl rfl rfl (B6 1 rfl C5 rfl B9 (A0 rfl) rfl) ?_
     refine A1 rfl rfl rfl (B4 0 rfl (A0 rfl) rfl C7 rfl) ?_
     refine A1 rfl rfl rfl (D6 rfl Tryz.call137 rfl (T8 _ _ _) (A7 (A0 rfl) (A7 B5 (A7 B5 C0)))) ?_
     refine A4 rfl rfl rfl rfl rfl ?_
     refine A9 rfl rfl (B1 rfl rfl rfl) (fun hc => B6 6 rfl C5 rfl K5 (A0 rfl) rfl) ?_
     refine A9 rfl rfl (B1 rfl rfl rfl) (fun hc => B4 0 rfl (A8 rfl hc) rfl M6 rfl) ?_
     refine A9 rfl rfl (B1 rfl rfl rfl) (fun hc => C4 rfl (A8 rfl hc)) ?_
     refine A9 rfl rfl (E0 rfl rfl rfl) (fun hc => B6 2 rfl C5 rfl B9 (A0 rfl) rfl) ?_
     refine A9 rfl rfl (E0 rfl rfl rfl) (fun hc => B4 0 rfl (A8 rfl hc) rfl C7 rfl) ?_
     refine A9 rfl rfl (E0 rfl rfl rfl) (fun hc => D6 rfl Tryz.call147 rfl (Z8 _) (A7 (A8 rfl hc) C0)) ?_
     refine A9 rfl rfl (B1 rfl rfl rfl) (fun hc => G1 rfl (A8 rfl hc) (Q1 rfl hc)) ?_
     refine A9 rfl rfl (B1 rfl rfl rfl) (fun hc => C4 rfl (A8 rfl hc)) ?_
     refine A9 rfl rfl (O7 rfl rfl rfl) (fun hc => B6 6 rfl C5 rfl K5 (A0 rfl) rfl) ?_
     refine A9 rfl rfl (O7 rfl rfl rfl) (fun hc => B4 0 rfl (A8 rfl hc) rfl M6 rfl) ?_
     refine A9 rfl rfl (O7 rfl rfl rfl) (fun hc => I4 rfl (A8 rfl hc)) ?_
     refine A9 rfl rfl (O7 rfl rfl rfl) (fun hc => C4 rfl (A8 rfl hc)) ?_
     refine A9 rfl rfl (E0 rfl rfl rfl) (fun hc => B6 2 rfl C5 rfl B9 (A0 rfl) rfl) ?_
     refine A9 rfl rfl (E0 rfl rfl rfl) (fun hc => B4 0 rfl (A8 rfl hc) rfl C7 rfl) ?_
     refine A9 rfl rfl (E0 rfl rfl rfl) (fun hc => M5 rfl (A8 rfl hc) B5) ?_
     refine A9 rfl rfl (O7 rfl rfl rfl) (fun hc => G1 rfl (A8 rfl hc) (Q1 rfl hc)) ?_
     refine A9 rfl rfl (B1 rfl rfl rfl) (fun hc => N4 rfl (A8 rfl hc) (Q1 rfl hc)) ?_
     refine A1 rfl rfl rfl (G1 rfl (A0 rfl) (E3 rfl)) ?_
     refine B2 rfl rfl rfl rfl rfl ?_
     refine A5 ?_
     refine C6 ?_
     exact H1 rfl (C3 rfl (by first | (exfalso; omega) | exact congrArg AV.bool (by unfold l4Good; rw [ho]; first | rfl | (unfold l4G1 l4G2 l4G4; simp [*]))))
    ·intro h69
     have k69 := N5 h69; try simp only [A6] at k69
     refine D1 (A3 (A2 ?_))
     refine A1 rfl rfl rfl (B6 0 rfl C5 rfl B9 (A0 rfl) rfl) ?_
     refine A1 rfl rfl rfl (B4 0 rfl (A0 rfl) rfl C7 rfl) ?_
     refine A1 rfl rfl rfl (M5 rfl (A0 rfl) B5) ?_
     refine A4 rfl rfl rfl rfl rfl ?_
     refine A9 rfl rfl (B1 rfl rfl rfl) (fun hc => B6 1 rfl C5 rfl B9 (A0 rfl) rfl) ?_
     refine A9 rfl rfl (B1 rfl rfl rfl) (fun hc => B4 0 rfl (A8 rfl hc) rfl C7 rfl) ?_
     refine A9 rfl rfl (B1 rfl rfl rfl) (fun hc => M5 rfl (A8 rfl hc) B5) ?_
     refine A1 rfl rfl rfl (G1 rfl (A0 rfl) (E3 rfl)) ?_
     refine A4 rfl rfl rfl rfl rfl ?_
     refine A9 rfl rfl (B1 rfl rfl rfl) (fun hc => B6 2 rfl C5 rfl B9 (A0 rfl) rfl) ?_
     refine A9 rfl rfl (B1 rfl rfl rfl) (fun hc => B4 0 rfl (A8 rfl hc) rfl C7 rfl) ?_
     refine A9 rfl rfl (B1 rfl rfl rfl) (fun hc => D6 rfl Tryz.call147 rfl (Z8 _) (A7 (A8 rfl hc) C0)) ?_
     refine A1 rfl rfl rfl (G1 rfl (A0 rfl) (E3 rfl)) ?_
     refine A4 rfl rfl rfl rfl rfl ?_
     refine A9 rfl rfl (B1 rfl rfl rfl) (fun hc => B6 6 rfl C5 rfl K5 (A0 rfl) rfl) ?_
     refine A9 rfl rfl (B1 rfl rfl rfl) (fun hc => B4 0 rfl (A8 rfl hc) rfl M6 rfl) ?_
     refine A9 rfl rfl (B1 rfl rfl rfl) (fun hc => I4 rfl (A8 rfl hc)) ?_
     refine A1 rfl rfl rfl (G1 rfl (A0 rfl) (E3 rfl)) ?_
     refine B2 rfl rfl rfl rfl rfl ?_
     refine A5 ?_
     refine C6 ?_
     exact H1 rfl (C3 rfl (by first | (exfalso; omega) | exact congrArg AV.bool (by unfold l4Good; rw [ho]; first | rfl | (unfold l4G1 l4G2 l4G4; simp [*]))))
   ·intro h69
    have k69 := N5 h69; try simp only [A6] at k69
    refine A2 ?_
    refine A1 rfl rfl rfl (M5 rfl (A0 rfl) B5) ?_
    refine B2 rfl rfl rfl rfl rfl ?_
    refine A5 ?_
    refine C8 (A0 rfl) ?_ ?_
    ·intro h69
     have k69 := N6 h69; try simp only [A6] at k69
     refine A3 (A2 ?_)
     refine A1 rfl rfl rfl (B6 1 rfl C5 rfl B9 (A0 rfl) rfl) ?_
     refine A1 rfl rfl rfl (B4 0 rfl (A0 rfl) rfl C7 rfl) ?_
     refine A1 rfl rfl rfl (D6 rfl Tryz.call137 rfl (T8 _ _ _) (A7 (A0 rfl) (A7 B5 (A7 B5 C0)))) ?_
     refine A4 rfl rfl rfl rfl rfl ?_
     refine A9 rfl rfl (B1 rfl rfl rfl) (fun hc => B6 6 rfl C5 rfl K5 (A0 rfl) rfl) ?_
     refine A9 rfl rfl (B1 rfl rfl rfl) (fun hc => B4 0 rfl (A8 rfl hc) rfl M6 rfl) ?_
     refine A9 rfl rfl (B1 rfl rfl rfl) (fun hc => C4 rfl (A8 rfl hc)) ?_
     refine A9 rfl rfl (E0 rfl rfl rfl) (fun hc => B6 2 rfl C5 rfl B9 (A0 rfl) rfl) ?_
     refine A9 rfl rfl (E0 rfl rfl rfl) (fun hc => B4 0 rfl (A8 rfl hc) rfl C7 rfl) ?_
     refine A9 rfl rfl (E0 rfl rfl rfl) (fun hc => D6 rfl Tryz.call147 rfl (Z8 _) (A7 (A8 rfl hc) C0)) ?_
     refine A9 rfl rfl (B1 rfl rfl rfl) (fun hc => G1 rfl (A8 rfl hc) (Q1 rfl hc)) ?_
     refine A9 rfl rfl (B1 rfl rfl rfl) (fun hc => C4 rfl (A8 rfl hc)) ?_
     refine A9 rfl rfl (O7 rfl rfl rfl) (fun hc => B6 6 rfl C5 rfl K5 (A0 rfl) rfl) ?_
     refine A9 rfl rfl (O7 rfl rfl rfl) (fun hc => B4 0 rfl (A8 rfl hc) rfl M6 rfl) ?_
     refine A9 rfl rfl (O7 rfl rfl rfl) (fun hc => I4 rfl (A8 rfl hc)) ?_
     refine A9 rfl rfl (O7 rfl rfl rfl) (fun hc => C4 rfl (A8 rfl hc)) ?_
     refine A9 rfl rfl (E0 rfl rfl rfl) (fun hc => B6 2 rfl C5 rfl B9 (A0 rfl) rfl) ?_
     refine A9 rfl rfl (E0 rfl rfl rfl) (fun hc => B4 0 rfl (A8 rfl hc) rfl C7 rfl) ?_
     refine A9 rfl rfl (E0 rfl rfl rfl) (fun hc => M5 rfl (A8 rfl hc) B5) ?_
     refine A9 rfl rfl (O7 rfl rfl rfl) (fun hc => G1 rfl (A8 rfl hc) (Q1 rfl hc)) ?_
     refine A9 rfl rfl (B1 rfl rfl rfl) (fun hc => N4 rfl (A8 rfl hc) (Q1 rfl hc)) ?_
     refine A1 rfl rfl rfl (G1 rfl (A0 rfl) (E3 rfl)) ?_
     refine B2 rfl rfl rfl rfl rfl ?_
     refine A5 ?_
     refine C6 ?_
     exact H1 rfl (C3 rfl (by first | (exfalso; omega) | exact congrArg AV.bool (by unfold l4Good; rw [ho]; first | rfl | (unfold l4G1 l4G2 l4G4; simp [*]))))
    ·intro h69
     have k69 := N5 h69; try simp only [A6] at k69
     refine D1 (A3 (A2 ?_))
     refine A1 rfl rfl rfl (B6 0 rfl C5 rfl B9 (A0 rfl) rfl) ?_
     refine A1 rfl rfl rfl (B4 0 rfl (A0 rfl) rfl C7 rfl) ?_
     refine A1 rfl rfl rfl (M5 rfl (A0 rfl) B5) ?_
     refine A4 rfl rfl rfl rfl rfl ?_
     refine A9 rfl rfl (B1 rfl rfl rfl) (fun hc => B6 1 rfl C5 rfl B9 (A0 rfl) rfl) ?_
     refine A9 rfl rfl (B1 rfl rfl rfl) (fun hc => B4 0 rfl (A8 rfl hc) rfl C7 rfl) ?_
     refine A9 rfl rfl (B1 rfl rfl rfl) (fun hc => M5 rfl (A8 rfl hc) B5) ?_
     refine A1 rfl rfl rfl (G1 rfl (A0 rfl) (E3 rfl)) ?_
     refine A4 rfl rfl rfl rfl rfl ?_
     refine A9 rfl rfl (B1 rfl rfl rfl) (fun hc => B6 2 rfl C5 rfl B9 (A0 rfl) rfl) ?_
     refine A9 rfl rfl (B1 rfl rfl rfl) (fun hc => B4 0 rfl (A8 rfl hc) rfl C7 rfl) ?_
     refine A9 rfl rfl (B1 rfl rfl rfl) (fun hc => D6 rfl Tryz.call147 rfl (Z8 _) (A7 (A8 rfl hc) C0)) ?_
     refine A1 rfl rfl rfl (G1 rfl (A0 rfl) (E3 rfl)) ?_
     refine A4 rfl rfl rfl rfl rfl ?_
     refine A9 rfl rfl (B1 rfl rfl rfl) (fun hc => B6 6 rfl C5 rfl K5 (A0 rfl) rfl) ?_
     refine A9 rfl rfl (B1 rfl rfl rfl) (fun hc => B4 0 rfl (A8 rfl hc) rfl M6 rfl) ?_
     refine A9 rfl rfl (B1 rfl rfl rfl) (fun hc => I4 rfl (A8 rfl hc)) ?_
     refine A1 rfl rfl rfl (G1 rfl (A0 rfl) (E3 rfl)) ?_
     refine B2 rfl rfl rfl rfl rfl ?_
     refine A5 ?_
     refine C6 ?_
     exact H1 rfl (C3 rfl (by first | (exfalso; omega) | exact congrArg AV.bool (by unfold l4Good; rw [ho]; first | rfl | (unfold l4G1 l4G2 l4G4; simp [*]))))
end Go.Proofs.YtnlhbdkcgaeimaaGreat

set_option linter.unusedVariables false
set_option linter.unusedSimpArgs false
namespace Go.AV
section
variable {P : Program} {G : Nat → Prop} {n : Nat} {own : List Own} {o : Oper}
end
end Go.AV

set_option linter.unusedVariables false
set_option linter.unusedSimpArgs false
namespace Go.AV
open Go.RowKit (Below)
section
variable {P : Program} {G : Nat → Prop} {n : Nat} {own : List Own} {o : Oper} {E : EnvF}
theorem w_tlen {t e : TypeId} {p : Operand} {v : Value} {sz lo : Nat} {es : List (List AV)} (i : Nat) (ho : o.op = .call { callee := .builtin .len, args := #[p], argTypes := #[t] }) (ht : P.underlying t = some (.slice e)) (hp : Ev E p (AV.is (tailV lo sz v))) (hi : own[i]? = some (.arr v e sz es)) : OpW P G n own o E (AV.int ((es.length - lo : Nat) : Int)) := X6 fun w0 R0 R a w hcore he => by
  have h1 : a.eval p = _ := G9 hp (by simp [ho, Op.operands, Call.operands]) he
  obtain ⟨_, _, xs, hown, _⟩ := hcore.owned _ (G6 hi)
  obtain ⟨oa, c, rfl, _⟩ := s4 hown
  have hel : P.elem t = e := by simp [Program.elem, ht]
  have h2 := fun (b : Option Addr) => run_len_slice (P := P) w t o.type b (es.length - lo) (c - lo) (by rw [hel]; exact ht)
  exact ⟨.int .i64 (es.length - lo : Nat), by simp only [execOp, ho, resolve, invoke, builtin, List.map_toArray, List.map_cons, List.map_nil, h1, tailV, sliced, h2, Sem.run_bind, Sem.run_pure, Result.andThen_ok, goInt], rfl⟩
theorem Aa4 {t e : TypeId} {p q : Operand} {v : Value} {sz lo : Nat} {es : List (List AV)} {k : Int} (i : Nat) (ho : o.op = .indexAddr t p q) (ht : P.underlying t = some (.slice e)) (hsz : ∀ w, (sizeOf e).run P w = .ok sz w) (hp : Ev E p (AV.is (tailV lo sz v))) (hi : own[i]? = some (.arr v e sz es)) (hq : Ev E q (AV.int k)) (h0 : 0 ≤ k) (hk : lo + k < es.length) :
    OpW P G n own o E (AV.is (elemPtr v ((lo + k.toNat) * sz))) := X6 fun w0 R0 R a w hcore he => by
  have h1 : a.eval p = _ := G9 hp (by simp [ho, Op.operands]) he
  have h2 : a.eval q = .int .i64 k := G9 hq (by simp [ho, Op.operands]) he
  obtain ⟨_, _, xs, hown, _⟩ := hcore.owned _ (G6 hi)
  rcases hown.2 with ⟨rfl, hz⟩ | ⟨g, cap, cur, rfl, _, _, hn, _⟩
  · rw [hz] at hk; simp at hk; omega
  · have hel : P.elem t = e := by simp [Program.elem, ht]
    have hne : ¬ cap = lo := by omega
    have hk2 : k < ((es.length - lo : Nat) : Int) := by omega
    have h3 := run_indexAt_slice (P := P) w t ((⟨g, 0, none⟩ : Addr).add (lo * sz)) (es.length - lo) (cap - lo) .i64 k (by rw [hel]; exact ht)
    rw [if_pos ⟨h0, hk2⟩, hel, hsz, Result.andThen_ok] at h3
    have e : (lo + k.toNat) * sz = lo * sz + k.toNat * sz := Nat.add_mul _ _ _
    refine ⟨.pointer (some (Addr.add ((⟨g, 0, none⟩ : Addr).add (lo * sz)) (k.toNat * sz))), by simp only [execOp, ho, h1, h2, tailV, sliced, if_neg hne, Option.map_some, h3, Sem.run_bind, Sem.run_pure, Result.andThen_ok], ?_⟩
    rw [e]
    show Value.pointer _ = Value.pointer (some (Addr.add ⟨g, 0, none⟩ (lo * sz + k.toNat * sz)))
    simp only [e9, Nat.zero_add]
def SrcE (own : List Own) (E : EnvF) (q : Operand) (sz : Nat) (fs : List (List AV)) : Prop :=
  ∀ (G : Nat → Prop) (w0 : World) (R0 R : RHeap) (a : Act) (w : World), Core G w0 R0 own R w → (∀ t, q = .tmp t → ∀ y, E t = some y → y.den R (a.tmps.getD t undef)) →
    (∀ f ∈ fs, f.length = sz) ∧ ∃ oa cap vs, a.eval q = .slice oa fs.length cap ∧ (fs ≠ [] → ∃ ad, oa = some ad ∧ (∀ j u, vs[j]? = some u → w.cell? (ad.add j) = some u) ∧ DenC R vs fs.flatten)
theorem y9 {ops : Array Oper} {t e : TypeId} {p q : Operand} {sz by' : Nat} {inf : TypeInfo} {z : Value} {v : Value} {es fs : List (List AV)} (i : Nat) (ho : o.op = .call { callee := .builtin .append, args := #[p, q], argTypes := #[t, t] }) (ht : P.underlying t = some (.slice e)) (hinf : P.info? e = some inf) (hz : inf.zero = some z) (hsz : inf.size = sz) (hby : inf.bytes = by') (hzs : z.cells.size = sz) (hpos : Nat.ble 1 sz = true) (hpos2 : Nat.ble 1 by' = true) (hp : Ev E p (AV.is v)) (hq : SrcE own E q sz fs) (hi : own[i]? = some (.arr v e sz es))
    (hlen : (es.length + fs.length) * by' ≤ 140737488355328) : OpE P G n own ops o E (fun _ : Value => True) (fun v' => own.set i (.arr v' e sz (es ++ fs))) (fun v' => AV.is v') :=
  fun w0 R0 R a w h1 h3 h2 => by
    have e1 : a.eval p = v := s8 (ops := ops) hp (by simp [ho, Op.operands, Call.operands]) h2
    obtain ⟨hu, oa, c, ns, e2, hcell⟩ := hq G w0 R0 R a w h1 (fun t ht y hy => h2 t (f4 (by subst ht; exact List.mem_filterMap.2 ⟨.tmp t, by simp [ho, Op.operands, Call.operands], rfl⟩)) y hy)
    obtain ⟨hR, hue, xs, hown, hdc⟩ := h1.owned _ (G6 hi)
    have hb1 := Nat.le_of_ble_eq_true hpos
    have hb2 := Nat.le_of_ble_eq_true hpos2
    have hsum : es.length + fs.length ≤ 140737488355328 := Nat.le_trans (Nat.le_mul_of_pos_right _ hb2) hlen
    have hufs : ∀ x ∈ es ++ fs, x.length = sz := fun x hx => by
      rcases List.mem_append.1 hx with h | h
      · exact hue x h
      · exact hu x h
    by_cases hfs : fs = []
    · subst hfs
      have hrun : ∃ v', (Builtin.append_ #[t, t] o.type #[v, a.eval q]).run P w = .ok v' w ∧ v' = v := by
        refine ⟨v, ?_, rfl⟩
        rw [e2]
        rcases hown.2 with ⟨rfl, hz0⟩ | ⟨g, cap, cur, rfl, _, _, hnc, _⟩
        · cases oa with
          | none => simp [Builtin.append_, run_underlying ht, sizeOf, typeInfo, hinf, Builtin.lenOf, Builtin.firstCells, hz0]
          | some ad => simp [Builtin.append_, run_underlying ht, sizeOf, typeInfo, hinf, Builtin.lenOf, Builtin.firstCells, loadCells, loadCellsFrom, hz0]
        · cases oa with
          | none => simp [Builtin.append_, run_underlying ht, sizeOf, typeInfo, hinf, Builtin.lenOf, Builtin.firstCells, hnc, storeCells]
          | some ad => simp [Builtin.append_, run_underlying ht, sizeOf, typeInfo, hinf, Builtin.lenOf, Builtin.firstCells, loadCells, loadCellsFrom, hnc, storeCells]
      obtain ⟨v', hr, rfl⟩ := hrun
      have hex : (execOp a.eval o).run P w = .ok (.value v') w := by
        simp only [execOp, ho, resolve, invoke, builtin, Sem.run_bind, Sem.run_pure, Result.andThen_ok, List.map_toArray, List.map_cons, List.map_nil, e1, hr]
      unfold Oper.wp
      rw [hex, Oper.upon_value]
      have hset : own.set i (.arr v' e sz (es ++ [])) = own := by
        rw [List.append_nil]
        obtain ⟨hlt, he⟩ := List.getElem?_eq_some_iff.1 hi
        rw [← he]; exact List.set_getElem_self hlt
      exact ⟨v', v', R, trivial, rfl, by show Core G w0 R0 (own.set i (.arr v' e sz (es ++ []))) R w; rw [hset]; exact h1, RSub.refl _, rfl⟩
    · obtain ⟨ad, rfl, hn2, hn3⟩ := hcell hfs
      have hn1 : ns.length = fs.flatten.length := hn3.1
      have hnl : ns.length = fs.length * sz := by rw [hn1, Z4 hu]
      have hone : ∀ u ∈ ns, u.oneCell' = true := fun u hm => by
        obtain ⟨j, hj⟩ := List.getElem?_of_mem hm
        have hjl : j < fs.flatten.length := by rw [← hn1]; exact (List.getElem?_eq_some_iff.1 hj).1
        exact (hn3.2 j u _ hj (List.getElem?_eq_getElem hjl)).2
      obtain ⟨v', w', hr, hown', hgr, _, hblk⟩ := run_append_own_at (P := P) w 0 t o.type e inf z sz by' ht hinf hz hsz hby hzs hb1 v es.length xs hown ad fs.length c ns hnl hn2 hone (by unfold maxLen; omega) hlen (Nat.zero_le _)
      have hex : (execOp a.eval o).run P w = .ok (.value v') w' := by
        simp only [execOp, ho, resolve, invoke, builtin, Sem.run_bind, Sem.run_pure, Result.andThen_ok, List.map_toArray, List.map_cons, List.map_nil, e1, e2, hr]
      unfold Oper.wp
      rw [hex, Oper.upon_value]
      refine ⟨v', v', R, trivial, rfl, u5 h1 hi (fun b hb => ?_) ⟨fun b hb => ?_, hufs, xs ++ ns, ?_, ?_⟩ hgr, RSub.refl _, rfl⟩
      · simp only [Own.blk] at hb ⊢
        rcases hblk with h | h
        · exact .inl (by rw [← h]; exact hb)
        · rw [hb] at h; injection h with h; exact .inr h
      · rcases hblk with h | h
        · exact hR b (by rw [← h]; exact hb)
        · rw [hb] at h; injection h with h; subst h; exact s6 h1.rle
      · rw [J9]; exact hown'
      · rw [List.flatten_append]; exact l4 hdc hn3

theorem lt_tailm {α : Type} {f : α → List AV} {l : List α} {v : Value} {e : TypeId} {sz lo k : Nat} (hm : Own.arr v e sz (l.map f) ∈ own) (hlo : lo = k) (hk : k ≤ l.length) : LendTo own (AV.is (tailV lo sz v)) (AV.list sz ((l.drop k).map f)) := fun G w0 R0 R w u hc hu => by
  subst hlo
  cases (show u = tailV lo sz v from hu)
  obtain ⟨_, _, xs, hown, _⟩ := hc.owned _ hm
  obtain ⟨oa, c, hv, hnc⟩ := s4 hown
  have h1 := N2 hm I9 G w0 R0 R w v hc rfl
  obtain ⟨oa', c', e1, k1, k2, k3, k4⟩ := h1
  subst e1
  have h9 := AB7 (R := lend own w R) (lo := lo) (hi := (l.map f).length) (es := l.map f) (oa := oa') rfl k1 k2 k3 k4 (by rw [A6]; exact hk) (Nat.le_refl _)
  rw [List.take_length, ← List.map_drop] at h9
  exact h9
end
end Go.AV

set_option linter.unusedVariables false
set_option linter.unusedSimpArgs false
namespace Go.AV
open Go.Sort

theorem core_row {R : RHeap} {w w' : World} {v : Value} {g : Nat} {t : TypeId} {sz : Nat} {es es' : List (List AV)} {xs : List Value} (hb : v.ownBlock = some g) (hr : RLe R w) (hR : R g = none) (hg : w.grownBy w' (some g))
    (hown : w'.ownsRow 0 t sz v es'.length xs) (hd : DenC R xs es'.flatten) (hsz : ∀ e ∈ es', e.length = sz) :
    Core (blksOf [.arr v t sz es]) w R [.arr v t sz es'] R w' := by
  refine ⟨hg.os, hg.tape, hg.output, hg.size, fun k hk hG => hg.block k hk fun e => hG ⟨_, List.mem_singleton.2 rfl, ?_⟩, fun b o hbo => ?_, fun _ _ => rfl, fun o ho => ?_, fun o ho b e => ?_, ?_⟩
  · injection e with e; subst e; exact hb
  · have h1 := hr b o hbo
    have hlt : b < w.heap.size := (Array.getElem?_eq_some_iff.1 h1).1
    rw [hg.block b hlt fun e => by injection e with e; subst e; rw [hR] at hbo; cases hbo]; exact h1
  · rw [List.mem_singleton.1 ho]
    exact ⟨fun b e => by rw [hb] at e; injection e with e; subst e; exact hR, hsz, xs, hown, hd⟩
  · rw [List.mem_singleton.1 ho] at e
    exact .inr ⟨_, List.mem_singleton.2 rfl, e⟩
  · simp [Own.blk, hb]
theorem Am7 {R : RHeap} {w : World} {o : Own} (hr : RLe R w) (ho : Own.ok R w o) : Core (blksOf [o]) w R [o] R w :=
  ⟨rfl, rfl, rfl, Nat.le_refl _, fun _ _ _ => rfl, hr, fun _ _ => rfl, fun q hq => by rw [List.mem_singleton.1 hq]; exact ho, fun q hq b e => .inr ⟨q, hq, e⟩, by
    simp only [List.filterMap_cons, List.filterMap_nil]
    cases Own.blk o <;> simp⟩
theorem denC_is {R : RHeap} {vs ys : List Value} (h : DenC R vs (ys.map AV.is)) : vs = ys := by
  refine List.ext_getElem? fun i => ?_
  have hl := h.1
  rw [A6] at hl
  by_cases hi : i < ys.length
  · have h1 : vs[i]? = some vs[i] := List.getElem?_eq_getElem (by omega)
    have h2 : (ys.map AV.is)[i]? = some (AV.is ys[i]) := by rw [List.getElem?_map, List.getElem?_eq_getElem hi]; rfl
    have h3 := (h.2 i _ _ h1 h2).1
    rw [h1, List.getElem?_eq_getElem hi]
    exact congrArg some h3
  · rw [List.getElem?_eq_none (by omega), List.getElem?_eq_none (by omega)]
theorem denC_mk {R : RHeap} {ys : List Value} (h : ∀ y ∈ ys, y.oneCell' = true) : DenC R ys (ys.map AV.is) := by
  refine ⟨by rw [A6], fun i v x hv hx => ?_⟩
  rw [List.getElem?_map, hv] at hx
  injection hx with hx; subst hx
  exact ⟨rfl, h v (G6 hv)⟩
theorem AK2 {α : Type} (c : α → AV) (l : List α) : (l.map fun n => [c n]).flatten = l.map c := by
  induction l with
  | nil => rfl
  | cons x l ih => simp [ih]
section ordered
variable {P : Program} {f : FuncId} {t : TypeId} {α : Type} [Inhabited α]
theorem row_own1 (enc : α → Value) (h1c : ∀ x, (enc x).oneCell' = true) (srt : List α → List α) (hsl : ∀ l, (srt l).length = l.length)
    (h1 : ∀ (blk off cap : Nat) (zs : List α) (w : World), Holds enc w blk off zs.toArray → blk < w.heap.size → zs.length < 4611686018427387904 →
      Calls P f #[.slice (some ⟨blk, off, none⟩) zs.length cap] w fun e w' => e = .returned (.tuple #[]) ∧ ∃ n os, w' = grow (putRow enc (Sort.ahead w n) blk off (srt zs).toArray) os)
    (h0 : ∀ (p : Option Addr) (cap : Nat) (w : World), Calls P f #[.slice p 0 cap] w fun e w' => e = .returned (.tuple #[]) ∧ w' = w)
    (v : Value) (l : List α) (hl : l.length < 4611686018427387904) :
    GSpec P f [AV.is v] [.arr v t 1 (l.map fun n => [AV.is (enc n)])] (fun _ : Unit => True) (fun _ => [.arr v t 1 ((srt l).map fun n => [AV.is (enc n)])]) (fun _ => AV.tup []) := by
  intro R w vs hr hd hok hnd
  have hvs : vs = [v] := by
    obtain ⟨hlen, hval⟩ := hd
    cases vs with
    | nil => simp at hlen
    | cons a r =>
      cases r with
      | nil => have h9 := hval 0 a (AV.is v) rfl rfl; rw [show a = v from h9]
      | cons b r => simp at hlen
  subst hvs
  have ho := hok _ (List.mem_singleton.2 rfl)
  obtain ⟨hR, hsz, xs, hown, hden⟩ := ho
  have hxs : xs = l.map enc := by
    rw [AK2 (fun n => AV.is (enc n))] at hden
    have h9 : l.map (fun n => AV.is (enc n)) = (l.map enc).map AV.is := by simp
    rw [h9] at hden
    exact denC_is hden
  rw [A6] at hown
  rcases hown.2 with ⟨hv, hn⟩ | ⟨g, cap, cur, hv, _, hg, hnc, hcm, hcs, htk⟩
  · have hl0 : l = [] := List.length_eq_zero_iff.1 hn
    subst hv; subst hl0
    have hs0 : srt [] = [] := List.length_eq_zero_iff.1 (hsl [])
    refine (h0 none 0 w).mono ?_
    rintro e w' ⟨rfl, rfl⟩
    refine ⟨(), _, R, trivial, rfl, ⟨[], rfl, DenV.nil _⟩, ?_⟩
    rw [hs0]
    exact Am7 hr (hok _ (List.mem_singleton.2 rfl))
  · subst hv
    have hgl : g < w.heap.size := (Array.getElem?_eq_some_iff.1 hg).1
    rw [Nat.mul_one] at htk hcs
    have hH : Holds enc w g 0 l.toArray := fun j hj => by
      have hj' : j < l.length := by simpa using hj
      have h9 : cur.toList[j]? = some (enc l[j]) := by
        rw [← List.getElem?_take_of_lt hj', htk, hxs, List.getElem?_map, List.getElem?_eq_getElem hj']; rfl
      refine ⟨?_, by simp [World.frozen?, hg]⟩
      simp only [World.cell?, hg, Nat.zero_add]
      simp only [Option.isSome_none, Bool.false_eq_true, if_false]
      rw [← Array.getElem?_toList, h9]
      simp [hj']
    refine (h1 g 0 cap l w hH hgl hl).mono ?_
    rintro e w' ⟨rfl, n, os, rfl⟩
    refine ⟨(), _, R, trivial, rfl, ⟨[], rfl, DenV.nil _⟩, ?_⟩
    have hgb : w.grownBy (grow (putRow enc (Sort.ahead w n) g 0 (srt l).toArray) os) (some g) := by
      refine ⟨rfl, rfl, rfl, by simp, fun k hk hne => ?_⟩
      rw [heap_grow_old _ _ (by simpa using hk)]
      have h9 : g ≠ k := fun e => hne (by rw [e])
      simp [putRow, mapBlock, Sort.ahead, Array.getElem?_modify, h9]
    have hheap : (grow (putRow enc (Sort.ahead w n) g 0 (srt l).toArray) os).heap[g]? = some (.cells (putCells enc 0 (srt l).toArray cur) t (0, 0)) := by
      rw [heap_grow_old _ _ (by simpa using hgl)]
      simp [putRow, mapBlock, Sort.ahead, Array.getElem?_modify, hg, onCells]
    refine core_row (g := g) (xs := (srt l).map enc) rfl hr (hR g rfl) hgb ?_ ?_ ?_
    · rw [A6, hsl]
      refine ⟨by simp [hsl], .inr ⟨g, cap, _, rfl, Nat.zero_le _, hheap, hnc, hcm, by simp [putCells, hcs], ?_⟩⟩
      apply List.ext_getElem?
      intro j
      by_cases hj : j < l.length
      · rw [List.getElem?_take_of_lt (by omega), Array.getElem?_toList]
        have h8 : j < (srt l).length := by rw [hsl]; exact hj
        simp [putCells, h8, show j < cur.size by omega]
      · rw [List.getElem?_take_eq_none (by omega), List.getElem?_eq_none (by simp [hsl]; omega)]
    · rw [AK2 (fun n => AV.is (enc n))]
      have h9 : (srt l).map (fun n => AV.is (enc n)) = ((srt l).map enc).map AV.is := by simp
      rw [h9]
      exact denC_mk fun y hy => by obtain ⟨x, _, rfl⟩ := List.mem_map.1 hy; exact h1c x
    · intro e he; obtain ⟨x, _, rfl⟩ := List.mem_map.1 he; rfl
end ordered
end Go.AV

namespace Go.Proofs
open Go.Shelf
set_option linter.unusedVariables false
def Tryz.sortStrs_ren : Go.Shelf.Ren := ⟨fun | 190 => 246 | 125 => 281 | 258 => 280 | 128 => 306 | 129 => 307 | 302 => 297 | 303 => 298 | 304 => 299 | 305 => 300 | 306 => 301 | 307 => 302 | 308 => 303 | 309 => 304 | 310 => 305 | 333 => 316 | 329 => 317 | 330 => 318 | 334 => 319 | 335 => 320 | 336 => 282 | 344 => 324 | n => n, fun | 31 => 42 | 9 => 9 | 3 => 3 | 46 => 253 | 0 => 0 | 51 => 293 | 53 => 125 | 4 => 4 | 183 => 287 | 182 => 286 | 131 => 60 | 5 => 5 | 218 => 299 | 222 => 303 | 228 => 307 | 229 => 308 | n => n, fun | n => n⟩
theorem Tryz.sortStrs : Go.Proofs.Lays.n190 Tryz.prog Tryz.sortStrs_ren := {
  mixed := by kernel_rfl
  f125 := Tryz.func281.trans (congrArg some (by kernel_rfl))
  f128 := Tryz.func306.trans (congrArg some (by kernel_rfl))
  f129 := Tryz.func307.trans (congrArg some (by kernel_rfl))
  f190 := Tryz.func246.trans (congrArg some (by kernel_rfl))
  f258 := Tryz.func280.trans (congrArg some (by kernel_rfl))
  f302 := Tryz.func297.trans (congrArg some (by kernel_rfl))
  f303 := Tryz.func298.trans (congrArg some (by kernel_rfl))
  f304 := Tryz.func299.trans (congrArg some (by kernel_rfl))
  f305 := Tryz.func300.trans (congrArg some (by kernel_rfl))
  f306 := Tryz.func301.trans (congrArg some (by kernel_rfl))
  f307 := Tryz.func302.trans (congrArg some (by kernel_rfl))
  f308 := Tryz.func303.trans (congrArg some (by kernel_rfl))
  f309 := Tryz.func304.trans (congrArg some (by kernel_rfl))
  f310 := Tryz.func305.trans (congrArg some (by kernel_rfl))
  f329 := Tryz.func317.trans (congrArg some (by kernel_rfl))
  f330 := Tryz.func318.trans (congrArg some (by kernel_rfl))
  f333 := Tryz.func316.trans (congrArg some (by kernel_rfl))
  f334 := Tryz.func319.trans (congrArg some (by kernel_rfl))
  f335 := Tryz.func320.trans (congrArg some (by kernel_rfl))
  f336 := Tryz.func282.trans (congrArg some (by kernel_rfl))
  f344 := Tryz.func324.trans (congrArg some (by kernel_rfl))
  t0 := Tryz.underlying0
  a0 := Tryz.isAgg0
  z0 := Tryz.sizeOf0
  v0 := Tryz.zeroValue0
  t3 := U7
  a3 := C7
  z3 := B9
  v3 := Tryz.zeroValue3
  t4 := M2
  a4 := M6
  z4 := K5
  v4 := Tryz.zeroValue4
  t5 := Tryz.underlying5
  a5 := Tryz.isAgg5
  z5 := Tryz.sizeOf5
  v5 := Tryz.zeroValue5
  t9 := O2
  a9 := H0
  z9 := F5
  v9 := Tryz.zeroValue9
  t31 := E2
  a31 := P6
  z31 := L9
  v31 := Tryz.zeroValue42
  t46 := Tryz.underlying253
  a46 := Tryz.isAgg253
  z46 := Tryz.sizeOf253
  v46 := Tryz.zeroValue253
  t51 := Tryz.underlying293
  a51 := Tryz.isAgg293
  z51 := Tryz.sizeOf293
  v51 := Tryz.zeroValue293
  t53 := Tryz.underlying125
  a53 := Tryz.isAgg125
  z53 := U1
  v53 := Tryz.zeroValue125
  t131 := Tryz.underlying60
  a131 := Tryz.isAgg60
  z131 := Tryz.sizeOf60
  v131 := Tryz.zeroValue60
  t182 := Tryz.underlying286
  a182 := Tryz.isAgg286
  z182 := Tryz.sizeOf286
  v182 := Tryz.zeroValue286
  t183 := Tryz.underlying287
  a183 := Tryz.isAgg287
  z183 := Tryz.sizeOf287
  v183 := Tryz.zeroValue287
  t218 := Tryz.underlying299
  a218 := Tryz.isAgg299
  z218 := Tryz.sizeOf299
  v218 := Tryz.zeroValue299
  t222 := Tryz.underlying303
  a222 := Tryz.isAgg303
  z222 := Tryz.sizeOf303
  v222 := Tryz.zeroValue303
  t228 := Tryz.underlying307
  a228 := Tryz.isAgg307
  z228 := Tryz.sizeOf307
  v228 := Tryz.zeroValue307
  t229 := Tryz.underlying308
  a229 := Tryz.isAgg308
  z229 := Tryz.sizeOf308
  v229 := Tryz.zeroValue308 }
end Go.Proofs

set_option linter.unusedVariables false
set_option linter.unusedSimpArgs false
set_option maxRecDepth 100000
set_option maxHeartbeats 1000000
namespace Go.Proofs.YtnlhbdkcgaeimaaGreat
open Go Go.AV Go.M
attribute [local irreducible] OpW OpA OpS AWP FSpec ESpec GSpec OpE RetOk RetOkG RvDen Le Ev GuardIs SrcIs Int.tmod Int.tdiv IntKind.wrap
theorem Aa5 (v : Value) (l : List Str) (hl : l.length < 4611686018427387904) : GSpec Tryz.prog 246 [AV.is v] [.arr v 9 1 (l.map fun s => [AV.str s])] (fun _ : Unit => True) (fun _ => [.arr v 9 1 ((sortS l).map fun s => [AV.str s])]) (fun _ => AV.tup []) :=
  row_own1 Go.Proofs.encStr (fun _ => rfl) sortS AG0
    (fun blk off cap zs w h1 h2 h3 => Any.slices_Sort_string Tryz.sortStrs blk off cap zs w h1 h2 h3) (fun p cap w => Any.slices_Sort_string_none Tryz.sortStrs p cap w) v l hl
end Go.Proofs.YtnlhbdkcgaeimaaGreat

set_option linter.unusedVariables false
set_option linter.unusedSimpArgs false
set_option maxRecDepth 100000
set_option maxHeartbeats 1000000
namespace Go.Proofs.YtnlhbdkcgaeimaaGreat
open Go Go.AV Go.M
attribute [local irreducible] OpW OpA OpS AWP FSpec ESpec GSpec OpE RetOk RetOkG RvDen Le Ev GuardIs SrcIs Int.tmod Int.tdiv IntKind.wrap
theorem t1 {l : List Str} {i j : Nat} {s : Str} (h : l[i]? = some s) (hj : j = i * 1) : ((l.map fun s => [AV.str s]).flatten)[j]? = some (AV.str s) := by
  rw [hj, Nat.mul_one]
  have e : (l.map fun s => [AV.str s]).flatten = l.map AV.str := by
    clear h
    induction l with
    | nil => rfl
    | cons x l ih => simp [ih]
  rw [e, List.getElem?_map, h]; rfl
theorem AR8 (v : Value) (l : List Str) (hl : l.length ≤ 4194304) : GSpec Tryz.prog 247 [AV.is v] [.arr v 9 1 (l.map fun s => [AV.str s])]
   (fun _ : Value => True) (fun v => [.arr v 9 1 ((cmpL l).map fun s => [AV.str s])]) (fun v => AV.is v) := by
 refine I2 Tryz.func247 rfl Tryz.ntmps247 rfl ?_
 refine A3 (A2 ?_)
 refine A1 rfl rfl rfl (B8 rfl Q7) ?_
 refine A5 (A3 (A3 (A2 ?_)))
 refine A4 rfl rfl rfl rfl rfl ?_
 refine A1 rfl rfl rfl (U5 0 rfl E2 (A0 rfl) rfl) ?_
 refine A1 rfl rfl rfl (J8 rfl (A0 rfl) B5) ?_
 refine A5 ?_
 refine C8 (A0 rfl) ?_ ?_
 ·intro h8
  have k8 := of_decide_eq_true h8; try simp only [A6] at k8
  have hall : cmpL l = l := by (unfold cmpL; rw [u9 (Nat.le_refl _) (fun i h1 h2 => by omega), List.take_length])
  refine A3 (A2 ?_)
  refine A4 rfl rfl rfl rfl rfl ?_
  refine B2 rfl rfl rfl rfl rfl ?_
  refine A5 ?_
  refine C6 ?_
  exact M8 [0] v (trivial) rfl (by first | exact congrArg (fun z => [Own.arr _ 9 1 (List.map (fun s => [AV.str s]) z)]) hall | (refine congrArg (fun z => [Own.arr _ 9 1 z]) ?_; exact (AR1 hinv.2.2.2.2.1 hge (by omega)).symm)) (Q4 rfl (C3 rfl (by first | rfl | (refine congrArg AV.bool ?_; simp_all; done))))
 ·intro h8
  have k8 := of_decide_eq_false h8; try simp only [A6] at k8
  refine D1 (A3 (A3 (A2 ?_)))
  refine A1 rfl rfl rfl (B8 rfl B5) ?_
  refine A5 (D7 ?_)
  refine J0 [(0, _)] _ (fun (k : Nat) => (1 ≤ k ∧ k ≤ l.length) ∧ ∀ i, 1 ≤ i → i < k → l[i]? ≠ l[i - 1]?) (fun (k : Nat) => []) (fun (k : Nat) => [(3, AV.int k)]) (fun (k : Nat) => l.length - k) (1) ?_ (J1 ⟨rfl, rfl, trivial⟩) ?_
  ·exact ⟨⟨Nat.le_refl _, by omega⟩, fun i h1 h2 => by omega⟩
  intro k hinv
  refine A3 (A3 (A2 ?_))
  refine A4 rfl rfl rfl rfl rfl ?_
  refine A4 rfl rfl rfl rfl rfl ?_
  refine A1 rfl rfl rfl (U5 0 rfl E2 (A0 rfl) rfl) ?_
  refine A1 rfl rfl rfl (J8 rfl (A0 rfl) (A0 rfl)) ?_
  refine A5 ?_
  refine C8 (A0 rfl) ?_ ?_
  ·intro h13
   have k13 := of_decide_eq_true h13; try simp only [A6] at k13
   have hlt : k < l.length := by omega
   obtain ⟨x, hx⟩ := get_some hlt
   obtain ⟨y, hy⟩ := get_some (show k - 1 < l.length by omega)
   refine D1 (A3 (D7 (A3 ?_)))
   refine K0 (by kernel_rfl) (by kernel_rfl) rfl ?_
   refine C2 rfl rfl (C4 rfl (A0 rfl)) ?_
   refine C2 rfl rfl (C4 rfl (A0 rfl)) ?_
   refine C2 rfl rfl (V8 0 rfl E2 F5 (A0 rfl) rfl (A0 rfl) (by first | omega | (simp only [A6, B0, B7, C1, B3, szR] at *; omega)) (by first | omega | (simp only [A6, B0, B7, C1, B3, szR] at *; omega))) ?_
   refine C2 rfl rfl (i9 0 rfl (A0 rfl) rfl H0 (t1 hx (by omega))) ?_
   refine C2 rfl rfl (C4 rfl (A0 rfl)) ?_
   refine C2 rfl rfl (C4 rfl (A0 rfl)) ?_
   refine C2 rfl rfl (N1 rfl (A0 rfl) B5 (by first | omega | (simp only [A6, B0, B7, C1, B3, szR] at *; omega))) ?_
   refine C2 rfl rfl (V8 0 rfl E2 F5 (A0 rfl) rfl (A0 rfl) (by first | omega | (simp only [A6, B0, B7, C1, B3, szR] at *; omega)) (by first | omega | (simp only [A6, B0, B7, C1, B3, szR] at *; omega))) ?_
   refine C2 rfl rfl (i9 0 rfl (A0 rfl) rfl H0 (t1 hy (by omega))) ?_
   refine C2 rfl rfl (o6 rfl (A0 rfl) (A0 rfl)) ?_
   refine Q9 ?_
   refine C8 (A0 rfl) ?_ ?_
   ·intro h25
    have hxy : l[k]? = l[k - 1]? := by (rw [hx, hy]; have h9 := h25; simp at h9; rw [h9])
    have hinv0 := hinv
    refine A3 (A2 ?_)
    refine A4 rfl rfl rfl rfl rfl ?_
    refine A4 rfl rfl rfl rfl rfl ?_
    refine A1 rfl rfl rfl (w_alo 0 rfl E2 F5 (A0 rfl) rfl (A0 rfl) (by first | omega | (simp only [A6, B0, B7, C1, B3, szR] at *; omega)) (by first | omega | (simp only [A6, B0, B7, C1, B3, szR] at *; omega))) ?_
    refine B2 rfl rfl rfl rfl rfl ?_
    refine A5 (A3 (A3 (A2 ?_)))
    refine A1 rfl rfl rfl (B8 rfl B5) ?_
    refine A5 (D7 ?_)
    refine U3 [(0, _), (4, _), (10, _), (11, _), (12, _), (13, _), (16, _), (17, _), (18, _), (19, _), (20, _), (21, _), (22, _), (23, _), (24, _), (25, _), (26, _), (27, _), (28, _)] _ (fun (i : Nat) (j : Nat) (m : List Str) => 1 ≤ j ∧ k + j ≤ l.length ∧ i + 1 ≤ k + j ∧ m.length = l.length ∧ m.take i = cmpN l (k + j) ∧ m.drop (k + j - 1) = l.drop (k + j - 1)) (fun (i : Nat) (j : Nat) (m : List Str) => [.arr v 9 1 (m.map fun s => [AV.str s])]) (fun (i : Nat) (j : Nat) (m : List Str) => [(3, AV.int i), (5, AV.int j)]) (fun (i : Nat) (j : Nat) (m : List Str) => l.length - (k + j)) (k) (1) (l) ?_ (S7 (by rfl) ⟨rfl, rfl, rfl, rfl, rfl, rfl, rfl, rfl, rfl, rfl, rfl, rfl, rfl, rfl, rfl, rfl, rfl, rfl, rfl, rfl, rfl, trivial⟩) ?_
    ·exact ⟨Nat.le_refl _, by omega, by omega, rfl, by rw [AT3 (by omega) hxy, u9 (by omega) hinv0.2], rfl⟩
    intro i j m hinv
    refine A3 (A3 (A2 ?_))
    refine A4 rfl rfl rfl rfl rfl ?_
    refine A4 rfl rfl rfl rfl rfl ?_
    refine A1 rfl rfl rfl (w_tlen 0 rfl E2 (A0 rfl) rfl) ?_
    refine A1 rfl rfl rfl (J8 rfl (A0 rfl) (A0 rfl)) ?_
    refine A5 ?_
    refine C8 (A0 rfl) ?_ ?_
    ·intro h32
     have k32 := of_decide_eq_true h32; try simp only [A6] at k32
     have hm := hinv.2.2.2.1
     have hlt1 : k + j < l.length := by omega
     obtain ⟨x1, hx1⟩ := get_some hlt1
     obtain ⟨y1, hy1⟩ := get_some (show k + j - 1 < l.length by omega)
     have hmx := AF8 hinv.2.2.2.2.2 hx1 (by omega)
     have hmy := AF8 hinv.2.2.2.2.2 hy1 (by omega)
     refine D1 (A3 (D7 (A3 ?_)))
     refine K0 (by kernel_rfl) (by kernel_rfl) rfl ?_
     refine C2 rfl rfl (C4 rfl (A0 rfl)) ?_
     refine C2 rfl rfl (C4 rfl (A0 rfl)) ?_
     refine C2 rfl rfl (Aa4 0 rfl E2 F5 (A0 rfl) rfl (A0 rfl) (by omega) (by simp only [A6]; omega)) ?_
     refine C2 rfl rfl (i9 0 rfl (A0 rfl) rfl H0 (t1 hmx (by rw [show ((k : Int).toNat + (j : Int).toNat) = k + j by omega]))) ?_
     refine C2 rfl rfl (C4 rfl (A0 rfl)) ?_
     refine C2 rfl rfl (C4 rfl (A0 rfl)) ?_
     refine C2 rfl rfl (N1 rfl (A0 rfl) B5 (by first | omega | (simp only [A6, B0, B7, C1, B3, szR] at *; omega))) ?_
     refine C2 rfl rfl (Aa4 0 rfl E2 F5 (A0 rfl) rfl (A0 rfl) (by omega) (by simp only [A6]; omega)) ?_
     refine C2 rfl rfl (i9 0 rfl (A0 rfl) rfl H0 (t1 hmy (by rw [show ((k : Int).toNat + ((j : Int) - 1).toNat) = k + j - 1 by omega]))) ?_
     refine C2 rfl rfl (AY7 rfl (A0 rfl) (A0 rfl)) ?_
     refine Q9 ?_
     refine C8 (A0 rfl) ?_ ?_
     ·intro h44
      refine A3 (A2 ?_)
      refine A4 rfl rfl rfl rfl rfl ?_
      refine A4 rfl rfl rfl rfl rfl ?_
      refine A4 rfl rfl rfl rfl rfl ?_
      refine A4 rfl rfl rfl rfl rfl ?_
      refine A1 rfl rfl rfl (Aa4 0 rfl E2 F5 (A0 rfl) rfl (A0 rfl) (by omega) (by simp only [A6]; omega)) ?_
      refine A1 rfl rfl rfl (i9 0 rfl (A0 rfl) rfl H0 (t1 hmx (by rw [show ((k : Int).toNat + (j : Int).toNat) = k + j by omega]))) ?_
      refine A1 rfl rfl rfl (V8 0 rfl E2 F5 (A0 rfl) rfl (A0 rfl) (by omega) (by simp only [A6]; omega)) ?_
      refine Ak9 0 rfl rfl rfl (A0 rfl) (A0 rfl) (P4 _) rfl F5 rfl (by simp only [A6, Int.toNat_natCast]; omega) ?_
      refine A5 (A2 ?_)
      refine A4 rfl rfl rfl rfl rfl ?_
      refine A1 rfl rfl rfl (G5 rfl (A0 rfl) B5 (by first | omega | (simp only [A6, B0, B7, C1, B3, szR] at *; omega))) ?_
      refine B2 rfl rfl rfl rfl rfl ?_
      refine A5 (A2 ?_)
      refine A4 rfl rfl rfl rfl rfl ?_
      refine A1 rfl rfl rfl (G5 rfl (A0 rfl) B5 (by first | omega | (simp only [A6, B0, B7, C1, B3, szR] at *; omega))) ?_
      refine B2 rfl rfl rfl rfl rfl ?_
      refine A5 ?_
      refine T2 i j m (i + 1) (j + 1) (m.set i x1) ?_ ?_ (S7 (by first | exact congrArg (fun z => [Own.arr v 9 1 z]) (List.map_set).symm | rfl) ⟨rfl, rfl, rfl, rfl, rfl, rfl, rfl, rfl, rfl, rfl, rfl, rfl, rfl, rfl, rfl, rfl, rfl, rfl, rfl, rfl, rfl, trivial⟩)
      ·exact cmp_keep hinv (by omega) hx1 hy1 (by simpa using h44)
      ·omega
     ·intro h44
      refine D1 (A2 ?_)
      refine A4 rfl rfl rfl rfl rfl ?_
      refine A1 rfl rfl rfl (G5 rfl (A0 rfl) B5 (by first | omega | (simp only [A6, B0, B7, C1, B3, szR] at *; omega))) ?_
      refine B2 rfl rfl rfl rfl rfl ?_
      refine A5 ?_
      refine T2 i j m (i) (j + 1) (m) ?_ ?_ (S7 (by first | exact congrArg (fun z => [Own.arr v 9 1 z]) (List.map_set).symm | rfl) ⟨rfl, rfl, rfl, rfl, rfl, rfl, rfl, rfl, rfl, rfl, rfl, rfl, rfl, rfl, rfl, rfl, rfl, rfl, rfl, rfl, rfl, trivial⟩)
      ·exact cmp_skip hinv (by omega) hx1 hy1 (by simpa using h44)
      ·omega
    ·intro h32
     have k32 := of_decide_eq_false h32; try simp only [A6] at k32
     have hm := hinv.2.2.2.1
     have hge : k + j = l.length := by omega
     refine H4 ?_
     refine A3 (A2 ?_)
     refine A4 rfl rfl rfl rfl rfl ?_
     refine A4 rfl rfl rfl rfl rfl ?_
     refine A1 rfl rfl rfl (w_alo 0 rfl E2 F5 (A0 rfl) rfl (A0 rfl) (by first | omega | (simp only [A6, B0, B7, C1, B3, szR] at *; omega)) (by first | omega | (simp only [A6, B0, B7, C1, B3, szR] at *; omega))) ?_
     refine Al2 0 rfl rfl rfl E2 Tryz.zeroValue9 rfl rfl (by decide) (A0 rfl) rfl (by simp only [A6, Int.toNat_natCast]; omega) ?_
     refine A5 (A3 (A2 ?_))
     refine A4 rfl rfl rfl rfl rfl ?_
     refine A4 rfl rfl rfl rfl rfl ?_
     refine sq_ahi 0 rfl rfl rfl rfl E2 F5 (A0 rfl) rfl (A0 rfl) (by omega) (by simp only [A6, J9, B0, List.length_replicate]; omega) ?_
     intro v59_1
     refine B2 rfl rfl rfl rfl rfl ?_
     refine A5 ?_
     refine C6 ?_
     exact M8 [0] v59_1 (trivial) rfl (by first | exact congrArg (fun z => [Own.arr _ 9 1 (List.map (fun s => [AV.str s]) z)]) hall | (refine congrArg (fun z => [Own.arr _ 9 1 z]) ?_; exact (AR1 hinv.2.2.2.2.1 hge (by omega)).symm)) (Q4 rfl (C3 rfl (by first | rfl | (refine congrArg AV.bool ?_; simp_all; done))))
   ·intro h25
    refine D1 (A2 ?_)
    refine A4 rfl rfl rfl rfl rfl ?_
    refine A1 rfl rfl rfl (G5 rfl (A0 rfl) B5 (by first | omega | (simp only [A6, B0, B7, C1, B3, szR] at *; omega))) ?_
    refine B2 rfl rfl rfl rfl rfl ?_
    refine A5 ?_
    refine L2 k (k + 1) ?_ ?_ (J1 ⟨rfl, rfl, trivial⟩)
    ·exact ⟨⟨by omega, by omega⟩, fun i h1 h2 => if e : i = k then (by subst e; rw [hx, hy]; intro e; injection e with e; subst e; simp at h25) else hinv.2 i h1 (by omega)⟩
    ·omega
  ·intro h13
   have k13 := of_decide_eq_false h13; try simp only [A6] at k13
   have hall : cmpL l = l := by (unfold cmpL; rw [u9 (Nat.le_refl _) (fun i h1 h2 => hinv.2 i h1 (by omega)), List.take_length])
   refine H4 ?_
   refine A3 (A2 ?_)
   refine A4 rfl rfl rfl rfl rfl ?_
   refine B2 rfl rfl rfl rfl rfl ?_
   refine A5 ?_
   refine C6 ?_
   exact M8 [0] v (trivial) rfl (by first | exact congrArg (fun z => [Own.arr _ 9 1 (List.map (fun s => [AV.str s]) z)]) hall | (refine congrArg (fun z => [Own.arr _ 9 1 z]) ?_; exact (AR1 hinv.2.2.2.2.1 hge (by omega)).symm)) (Q4 rfl (C3 rfl (by first | rfl | (refine congrArg AV.bool ?_; simp_all; done))))
end Go.Proofs.YtnlhbdkcgaeimaaGreat

set_option linter.unusedVariables false
set_option linter.unusedSimpArgs false
set_option maxRecDepth 100000
set_option maxHeartbeats 1000000
namespace Go.M
open Go.AV
theorem AV5 {l : List TWrite} (h : adj wLess l = true) (k : Str) : wHas l k = hasK l k := by
  have e := findW_eq h k
  cases hw : wHas l k with
  | true =>
    obtain ⟨x, hx, hk⟩ := wHas_iff.1 hw
    exact (c6.2 ⟨x, G6 hx, hk⟩).symm
  | false =>
    rw [hw] at e
    simp only [Bool.false_eq_true, if_false] at e
    unfold findW at e
    rw [List.find?_eq_none] at e
    cases hk : hasK l k with
    | false => rfl
    | true => obtain ⟨x, hx, hxk⟩ := c6.1 hk; have := e x hx; simp [hxk] at this
theorem Aj0 {w : List TWrite} (h : goodWrites w = true) : adj wLess w = true := by
  unfold goodWrites areRising wKeys at h
  simp only [Bool.and_eq_true] at h
  have := h.1.2.2
  rw [AI4] at this
  exact this
theorem Am8 {l : List TCell} (ha : adj cLess l = true) {k : Str} {c : TCell} (hc : cHas l k = true → l[cPos l k]? = some c) : fullC l k = (cHas l k && decide ((16 : Int) ≤ (c.Vers.length : Int))) := by
  unfold fullC
  rw [AM4 ha]
  cases h : cHas l k with
  | false => simp
  | true =>
    rw [if_pos rfl, hc h, Bool.true_and]
    dsimp only
    rw [decide_eq_decide]; omega
theorem Y3 {l : List THeld} {i : Nat} {h : THeld} {n : Nat} (hs : sizeL THeld.size l ≤ n) (hx : l[i]? = some h) : h.size ≤ n ∧ sizeL TWrite.size h.Writes ≤ n ∧ h.Writes.length ≤ n ∧ h.Reads.length ≤ n ∧ (hRec h).size ≤ n := by
  have h1 := Nat.le_trans (Y1 hx) hs
  have h2 : h.size = sizeL (fun x => x.length) h.Reads + sizeL TWrite.size h.Writes := rfl
  have h3 := P5 (f := fun x : Str => x.length) (l := h.Reads)
  have h4 := P5 (f := TWrite.size) (l := h.Writes)
  have h5 : (hRec h).size = sizeL (fun x => x.length) h.Reads + sizeL TWrite.size h.Writes := rfl
  exact ⟨by omega, by omega, by omega, by omega, by omega⟩
theorem AE1 {α : Type} {f : α → Nat} {l : List α} (i : Nat) : sizeL f (l.take i) ≤ sizeL f l := by
  have := l8 (f := f) (l := l.take i) (r := l.drop i)
  rw [List.take_append_drop] at this; omega
theorem AI6 : ∀ {l : List THeld}, (hWs l).length ≤ sizeL THeld.size l
  | [] => Nat.zero_le _
  | h :: l => by
    have ih := AI6 (l := l)
    have h4 := P5 (f := TWrite.size) (l := h.Writes)
    have h2 : h.size = sizeL (fun x => x.length) h.Reads + sizeL TWrite.size h.Writes := rfl
    rw [AC6, J9, M1]; omega
theorem Aa6 {l : List THeld} {i : Nat} {h : THeld} (hx : l[i]? = some h) : hWs (l.take (i + 1)) = hWs (l.take i) ++ h.Writes := by
  rw [List.take_add_one, hx, Ai5]
  show _ ++ hWs [h] = _
  rw [AC6]; simp [hWs]
def hCmp (n : Int) (h : THeld) : Int := cmpInt h.Txn n
def hPos (l : List THeld) (n : Int) : Nat := bs (hCmp n) l 0 l.length
def hHas (l : List THeld) (n : Int) : Bool := bsAt (hCmp n) l (hPos l n)
theorem AD0 (a b : Int) : cmpInt a b < 0 ↔ a < b := by unfold cmpInt; split <;> (try split) <;> omega
theorem AK3 (a b : Int) : cmpInt a b = 0 ↔ a = b := by unfold cmpInt; split <;> (try split) <;> omega
theorem AI7 {α : Type} {f : α → Int} {l : List α} (h : l.Pairwise fun a b => f a < f b) {i j : Nat} {x y : α} (hij : i < j) (hx : l[i]? = some x) (hy : l[j]? = some y) : f x < f y := by
  obtain ⟨i1, i2⟩ := List.getElem?_eq_some_iff.1 hx
  obtain ⟨j1, j2⟩ := List.getElem?_eq_some_iff.1 hy
  have := List.pairwise_iff_getElem.1 h i j i1 j1 hij
  rw [i2, j2] at this; exact this
theorem bsI_spec {α : Type} {f : α → Int} {l : List α} (h : l.Pairwise fun a b => f a < f b) (n : Int) : (∀ i x, i < bs (fun a => cmpInt (f a) n) l 0 l.length → l[i]? = some x → f x < n) ∧ (∀ x, l[bs (fun a => cmpInt (f a) n) l 0 l.length]? = some x → n ≤ f x) := by
  have := AR2 (fun a => cmpInt (f a) n) l (fun i j x y hij hx hy hf => by
    rw [AD0] at *
    have := AI7 h hij hx hy; omega) l.length 0 l.length rfl (Nat.zero_le _) (Nat.le_refl _) (fun k x hk => by omega) (fun x hx => by rw [List.getElem?_eq_none (Nat.le_refl _)] at hx; cases hx)
  exact ⟨fun i x hi hx => (AD0 _ _).1 (this.1 i x hi hx), fun x hx => by have := this.2 x hx; rw [AD0] at this; omega⟩
theorem bsI_has {α : Type} {f : α → Int} {l : List α} (h : l.Pairwise fun a b => f a < f b) (n : Int) : bsAt (fun a => cmpInt (f a) n) l (bs (fun a => cmpInt (f a) n) l 0 l.length) = l.any fun a => f a == n := by
  obtain ⟨h1, h2⟩ := bsI_spec h n
  cases ha : l.any fun a => f a == n with
  | true =>
    rw [List.any_eq_true] at ha
    obtain ⟨x, hx, e⟩ := ha
    obtain ⟨i, hi⟩ := List.getElem?_of_mem hx
    have e : f x = n := by simpa using e
    have hip : bs (fun a => cmpInt (f a) n) l 0 l.length = i := by
      rcases Nat.lt_trichotomy i (bs (fun a => cmpInt (f a) n) l 0 l.length) with h3 | h3 | h3
      · have := h1 i x h3 hi; omega
      · exact h3.symm
      · have hl := (List.getElem?_eq_some_iff.1 hi).1
        have hy := List.getElem?_eq_getElem (show bs (fun a => cmpInt (f a) n) l 0 l.length < l.length by omega)
        have h4 := h2 _ hy
        have h5 := AI7 h h3 hy hi; omega
    rw [hip]
    unfold bsAt
    rw [hi]
    simp only [(AK3 _ _).2 e]; rfl
  | false =>
    rw [List.any_eq_false] at ha
    unfold bsAt
    cases e : l[bs (fun a => cmpInt (f a) n) l 0 l.length]? with
    | none => rfl
    | some x =>
      have := ha x (G6 e)
      simp only [beq_iff_eq] at this ⊢
      rw [beq_eq_false_iff_ne]
      exact fun k => this ((AK3 _ _).1 k)
theorem Ag5 {l : List THeld} (h : l.Pairwise fun a b => a.Txn < b.Txn) (n : Int) : hHas l n = hasH l n := bsI_has (f := THeld.Txn) h n
theorem T6 {s : TState} {n : Nat} (h : s.size ≤ n) : sizeL TCell.size s.Cells ≤ n ∧ sizeL THeld.size s.Held ≤ n ∧ s.Told.length ≤ n ∧ s.Cells.length ≤ n ∧ s.Held.length ≤ n := by
  have h1 : s.size = sizeL TCell.size s.Cells + sizeL THeld.size s.Held + s.Told.length := rfl
  have h2 := P5 (f := TCell.size) (l := s.Cells)
  have h3 := P5 (f := THeld.size) (l := s.Held)
  exact ⟨by omega, by omega, by omega, by omega, by omega⟩
theorem p5 {s : TState} {i : Nat} {h y : THeld} (hx : s.Held[i]? = some h) (hy : s.Held[i - 1]? = some y) : heldAt s i = (!(((!goodRec (hRec h) || decide (s.Floor < h.Time)) || (decide ((0 : Int) < (i : Int)) && decide (h.Txn ≤ y.Txn)))) && (!((s.Held.take i).any fun g => clash h g) && !(h.Writes.any fun w => decide (h.Time ≤ lastTime s.Cells w.Key)))) := by
  unfold heldAt
  rw [hx]
  have h1 : hPrev s.Held i h.Txn = !(decide ((0 : Int) < (i : Int)) && decide (h.Txn ≤ y.Txn)) := by
    unfold hPrev; rw [hy]; dsimp only
    congr 2
    rw [decide_eq_decide]; omega
  have h2 : ((s.Held.take i).all fun g => apart g h.Reads h.Writes) = !((s.Held.take i).any fun g => clash h g) := by
    rw [List.not_any_eq_all_not]; congr 1; funext g; rw [AJ7, Bool.not_not]
  have h3 : (h.Writes.all fun w => decide (lastTime s.Cells w.Key < h.Time)) = !(h.Writes.any fun w => decide (h.Time ≤ lastTime s.Cells w.Key)) := by
    rw [List.not_any_eq_all_not]; congr 1; funext w; rw [← decide_not, decide_eq_decide]; omega
  dsimp only
  rw [h1, h2, h3]
  simp only [Bool.not_or, Bool.not_not, Bool.and_assoc]
theorem AK4 {s : TState} {i : Nat} {h : THeld} (hx : s.Held[i]? = some h) (hg : heldAt s i = true) : goodRec (hRec h) = true ∧ ∀ g, 0 < i → s.Held[i - 1]? = some g → g.Txn < h.Txn := by
  unfold heldAt at hg
  rw [hx] at hg
  simp only [Bool.and_eq_true, AG4] at hg
  exact ⟨hg.1.1.1.1, hg.1.1.2⟩
theorem AM9 {h : THeld} (hg : goodRec (hRec h) = true) : adj wLess h.Writes = true := by
  unfold goodRec hRec at hg
  rw [if_pos rfl] at hg
  unfold good1 at hg
  simp only [Bool.and_eq_true] at hg
  exact Aj0 hg.1.1.2
theorem Aa7 {s : TState} (h : areHeld s = true) : s.Held.Pairwise fun a b => a.Txn < b.Txn := by
  unfold areHeld at h
  rw [Bool.and_eq_true, j5] at h
  exact AC7 fun i x y h0 hx hy => (AK4 hx (h.1 i (List.getElem?_eq_some_iff.1 hx).1)).2 y h0 hy
theorem w4 {s : TState} {i : Nat} {t y : TTold} (hx : s.Told[i]? = some t) (hy : s.Told[i - 1]? = some y) : toldAt s i = (!((!isTxnR t.Txn || !((t.Yes && within t.Time 1 s.Floor) || (!t.Yes && (t.Time == 0)))) || (decide ((0 : Int) < (i : Int)) && decide (t.Txn ≤ y.Txn))) && !hasH s.Held t.Txn) := by
  unfold toldAt
  rw [hx]
  have h1 : tPrev s.Told i t.Txn = !(decide ((0 : Int) < (i : Int)) && decide (t.Txn ≤ y.Txn)) := by
    unfold tPrev; rw [hy]; dsimp only
    congr 2
    rw [decide_eq_decide]; omega
  have h2 : tFits s t = ((t.Yes && within t.Time 1 s.Floor) || (!t.Yes && (t.Time == 0))) := by
    unfold tFits; cases t.Yes <;> simp
  dsimp only
  rw [h1, h2]
  generalize ((t.Yes && within t.Time 1 s.Floor) || (!t.Yes && (t.Time == 0))) = b
  simp only [Bool.not_or, Bool.not_not, Bool.and_assoc]
end Go.M
namespace Go.Proofs.YtnlhbdkcgaeimaaGreat
open Go Go.AV Go.M
attribute [local irreducible] OpW OpA OpS AWP FSpec ESpec GSpec OpE RetOk RetOkG RvDen Le Ev GuardIs SrcIs Int.tmod Int.tdiv IntKind.wrap
theorem AW9 (w : TWrite) (os : List TWrite) (rs : List Str) (hs : os.length ≤ 4611686018427387903) (ha : adj wLess os = true) : FSpec Tryz.prog 278 [AV.agg w.cs, AV.eptr [AV.list 3 (os.map TWrite.cs)], AV.eptr [strs rs]] (AV.bool (hasK os w.Key || hasS rs w.Key)) := by
 have hwh := AV5 ha w.Key
 refine D9 Tryz.func278 rfl Tryz.ntmps278 rfl ?_
 refine A3 (A2 ?_)
 refine J6 rfl rfl rfl rfl (A0 rfl) ?_
 intro b3
 refine A1 rfl rfl rfl (B8 rfl F0) ?_
 refine A5 (A3 (A2 ?_))
 refine A1 rfl rfl rfl (L6 rfl (A0 rfl) L3 rfl) ?_
 refine A1 rfl rfl rfl (B6 0 rfl I3 rfl F5 (A0 rfl) rfl) ?_
 refine A1 rfl rfl rfl (B4 0 rfl (A0 rfl) rfl H0 rfl) ?_
 refine A1 rfl rfl rfl (D6 rfl Tryz.call216 rfl (AA6 _ _ (by omega)) (A7 (A0 rfl) (A7 (A0 rfl) C0))) ?_
 refine A4 rfl rfl rfl rfl rfl ?_
 refine A1 rfl rfl rfl (D0 rfl (A0 rfl) rfl) ?_
 refine A1 rfl rfl rfl (D0 rfl (A0 rfl) rfl) ?_
 refine B2 rfl rfl rfl rfl rfl ?_
 refine B2 rfl rfl rfl rfl rfl ?_
 refine A5 (A3 (A2 ?_))
 refine A4 rfl rfl rfl rfl rfl ?_
 refine A4 rfl rfl rfl rfl rfl ?_
 refine A9 rfl rfl (C9 rfl rfl rfl) (fun hc => L6 rfl (A0 rfl) P6 rfl) ?_
 refine A9 rfl rfl (C9 rfl rfl rfl) (fun hc => B6 0 rfl I3 rfl F5 (A0 rfl) rfl) ?_
 refine A9 rfl rfl (C9 rfl rfl rfl) (fun hc => B4 0 rfl (A8 rfl hc) rfl H0 rfl) ?_
 refine A9 rfl rfl (C9 rfl rfl rfl) (fun hc => D6 rfl Tryz.call279 rfl (AE5 _ _) (A7 (A8 rfl hc) (A7 (A8 rfl hc) C0))) ?_
 refine A1 rfl rfl rfl (N4 rfl (A0 rfl) (E3 rfl)) ?_
 refine B2 rfl rfl rfl rfl rfl ?_
 refine A5 ?_
 refine C6 ?_
 exact H1 rfl (C3 rfl (by exact congrArg AV.bool (by rw [hwh]; rfl)))
theorem AH2 (ws : List TWrite) (rs : List Str) (os : List TWrite) (hs : os.length ≤ 4611686018427387903) (ha : adj wLess os = true) : FSpec Tryz.prog 244 [AV.list 3 (ws.map TWrite.cs), strs rs, AV.list 3 (os.map TWrite.cs)] (AV.bool (overlap ws rs os)) := by
 refine D9 Tryz.func244 rfl Tryz.ntmps244 rfl ?_
 refine A3 (A2 ?_)
 refine Af4 rfl rfl rfl rfl (A0 rfl) (AL4 _ _) ?_
 intro b4
 refine Af4 rfl rfl rfl rfl (A0 rfl) (AL4 _ _) ?_
 intro b5
 refine A1 rfl rfl rfl (B8 rfl F0) ?_
 refine A5 (A3 (A2 ?_))
 refine A4 rfl rfl rfl rfl rfl ?_
 refine A1 rfl rfl rfl (w_clo rfl rfl (A7 (A0 rfl) (A7 (A0 rfl) C0))) ?_
 refine A1 rfl rfl rfl (j8 rfl Tryz.call186 rfl (Z7 _ _ _ (by first | (intros; trivial) | assumption | (intros; first | trivial | (simp_all; done)))) (F7 _) (S1 (evb (A0 rfl)) (S1 (AB5 (AZ1 0 1 (A0 rfl) rfl rfl) (AL6 Tryz.call278 (fun w (_ : True) => AW9 w _ _ (by first | assumption | omega) (by assumption)))) Z6))) ?_
 refine B2 rfl rfl rfl rfl rfl ?_
 refine A5 ?_
 refine C6 ?_
 exact H1 rfl (C3 rfl (by first | rfl | (refine congrArg AV.bool ?_; simp_all; done)))
theorem Aj1 (h k : THeld) (h1 : h.Writes.length ≤ 4611686018427387903) (k1 : k.Writes.length ≤ 4611686018427387903) (ha : adj wLess h.Writes = true) (ka : adj wLess k.Writes = true) : FSpec Tryz.prog 185 [AV.agg h.cs, AV.agg k.cs] (AV.bool (clash h k)) := by
 refine D9 Tryz.func185 rfl Tryz.ntmps185 rfl ?_
 refine A3 (A2 ?_)
 refine J6 rfl rfl rfl rfl (A0 rfl) ?_
 intro b2
 refine J6 rfl rfl rfl rfl (A0 rfl) ?_
 intro b3
 refine A1 rfl rfl rfl (B8 rfl F0) ?_
 refine A5 (A3 (A2 ?_))
 refine A1 rfl rfl rfl (B6 4 rfl E9 rfl J7 (A0 rfl) rfl) ?_
 refine A1 rfl rfl rfl (B4 1 rfl (A0 rfl) rfl L3 rfl) ?_
 refine A1 rfl rfl rfl (B6 3 rfl E9 rfl L9 (A0 rfl) rfl) ?_
 refine A1 rfl rfl rfl (B4 0 rfl (A0 rfl) rfl P6 rfl) ?_
 refine A1 rfl rfl rfl (B6 4 rfl E9 rfl J7 (A0 rfl) rfl) ?_
 refine A1 rfl rfl rfl (B4 0 rfl (A0 rfl) rfl L3 rfl) ?_
 refine A1 rfl rfl rfl (D6 rfl Tryz.call244 rfl (AH2 _ _ _ (by first | assumption | omega) (by assumption)) (A7 (A0 rfl) (A7 (A0 rfl) (A7 (A0 rfl) C0)))) ?_
 refine A4 rfl rfl rfl rfl rfl ?_
 refine A9 rfl rfl (C9 rfl rfl rfl) (fun hc => B6 4 rfl E9 rfl J7 (A0 rfl) rfl) ?_
 refine A9 rfl rfl (C9 rfl rfl rfl) (fun hc => B4 0 rfl (A8 rfl hc) rfl L3 rfl) ?_
 refine A9 rfl rfl (C9 rfl rfl rfl) (fun hc => B6 3 rfl E9 rfl L9 (A0 rfl) rfl) ?_
 refine A9 rfl rfl (C9 rfl rfl rfl) (fun hc => B4 1 rfl (A8 rfl hc) rfl P6 rfl) ?_
 refine A9 rfl rfl (C9 rfl rfl rfl) (fun hc => B6 4 rfl E9 rfl J7 (A0 rfl) rfl) ?_
 refine A9 rfl rfl (C9 rfl rfl rfl) (fun hc => B4 1 rfl (A8 rfl hc) rfl L3 rfl) ?_
 refine A9 rfl rfl (C9 rfl rfl rfl) (fun hc => D6 rfl Tryz.call244 rfl (AH2 _ _ _ (by first | assumption | omega) (by assumption)) (A7 (A8 rfl hc) (A7 (A8 rfl hc) (A7 (A8 rfl hc) C0)))) ?_
 refine A1 rfl rfl rfl (N4 rfl (A0 rfl) (E3 rfl)) ?_
 refine B2 rfl rfl rfl rfl rfl ?_
 refine A5 ?_
 refine C6 ?_
 exact H1 rfl (C3 rfl (by first | rfl | (refine congrArg AV.bool ?_; simp_all; done)))
theorem rec_spec (h : THeld) : FSpec Tryz.prog 182 [AV.agg h.cs] (AV.agg (hRec h).cs) := by
 refine D9 Tryz.func182 rfl Tryz.ntmps182 rfl ?_
 refine A3 (A2 ?_)
 refine J6 rfl rfl rfl rfl (A0 rfl) ?_
 intro b1
 refine F3 rfl rfl rfl rfl Tryz.zeroValue49 rfl ?_
 intro b2
 refine A5 (A3 (A2 ?_))
 refine A1 rfl rfl rfl (B6 0 rfl E9 rfl B9 (A0 rfl) rfl) ?_
 refine A1 rfl rfl rfl (B4 1 rfl (A0 rfl) rfl C7 rfl) ?_
 refine A1 rfl rfl rfl (B6 1 rfl E9 rfl B9 (A0 rfl) rfl) ?_
 refine A1 rfl rfl rfl (B4 1 rfl (A0 rfl) rfl C7 rfl) ?_
 refine A1 rfl rfl rfl (B6 2 rfl E9 rfl B9 (A0 rfl) rfl) ?_
 refine A1 rfl rfl rfl (B4 1 rfl (A0 rfl) rfl C7 rfl) ?_
 refine A1 rfl rfl rfl (B6 3 rfl E9 rfl L9 (A0 rfl) rfl) ?_
 refine A1 rfl rfl rfl (B4 1 rfl (A0 rfl) rfl P6 rfl) ?_
 refine A1 rfl rfl rfl (B6 4 rfl E9 rfl J7 (A0 rfl) rfl) ?_
 refine A1 rfl rfl rfl (B4 1 rfl (A0 rfl) rfl L3 rfl) ?_
 refine A1 rfl rfl rfl (Q2 (places := #[(0, 1), (1, 1), (2, 1), (3, 1), (4, 1), (5, 1), (6, 1)]) rfl C5 Tryz.zeroValue49 (fun w => by kernel_rfl) rfl (E7 B5 (K8 _ _) (E7 (A0 rfl) (K8 _ _) (E7 (A0 rfl) (K8 _ _) (E7 (A0 rfl) (K8 _ _) (E7 (A0 rfl) (W1 _ _) (E7 (A0 rfl) (W1 _ _) I6)))))) rfl) ?_
 refine D5 0 rfl rfl rfl (A0 rfl) (A0 rfl) (E8 _) rfl H5 rfl ?_
 refine A5 ?_
 refine C6 ?_
 exact H1 rfl (K3 (ys := _) 0 rfl rfl O3 H5 rfl)
theorem Aa8 {l : List TCell} {h : List THeld} (a b : Nat) (hl : sizeL TCell.size l ≤ 1048576) (hh : sizeL THeld.size h ≤ 1048576) : (cKeys (l.take a) ++ wKeys (hWs (h.take b))).length ≤ 2097152 := by
  have h1 := P5 (f := TCell.size) (l := l)
  have h2 := AI6 (l := h.take b)
  have h3 := AE1 (f := THeld.size) (l := h) b
  unfold cKeys wKeys
  simp only [J9, A6, B0]
  omega
theorem Am9 (s : TState) (held : List THeld) (hg : goodCells s.Cells = true) (hs : s.size ≤ 1048576) (hh : sizeL THeld.size held ≤ 1048576) : FSpec Tryz.prog 188 [AV.agg s.cs, AV.list 5 (held.map THeld.cs)] (AV.bool (decide (held.length ≤ 12) && room s.Cells (hWs held))) := by
 obtain ⟨hs1, hs2, hs3, hs4, hs5⟩ := T6 hs
 have hca := (l7 hg).2.1
 have hhl := P5 (f := THeld.size) (l := held)
 obtain ⟨p, hp⟩ : ∃ p : TWrite → Bool, p = fun w => !fullC s.Cells w.Key := ⟨_, rfl⟩
 refine D9 Tryz.func188 rfl Tryz.ntmps188 rfl ?_
 refine A3 (A2 ?_)
 refine J6 rfl rfl rfl rfl (A0 rfl) ?_
 intro b2
 refine A1 rfl rfl rfl (B8 rfl F0) ?_
 refine A5 (A3 (A2 ?_))
 refine U4 rfl rfl rfl rfl E2 F5 ?_
 intro v14
 refine B2 rfl rfl rfl rfl rfl ?_
 refine A5 (A3 (A3 (A2 ?_)))
 refine A1 rfl rfl rfl (B6 1 rfl D4 rfl P8 (A0 rfl) rfl) ?_
 refine A1 rfl rfl rfl (B4 1 rfl (A0 rfl) rfl Q8 rfl) ?_
 refine A1 rfl rfl rfl (H3 rfl F2 (A0 rfl)) ?_
 refine A1 rfl rfl rfl (C4 rfl B5) ?_
 refine A5 (D7 ?_)
 refine U3 [(1, _), (2, _), (4, _), (16, _), (17, _)] _ (fun (i : Nat) (v : Value) (ks : List Str) => i ≤ s.Cells.length ∧ ks = cKeys (s.Cells.take i)) (fun (i : Nat) (v : Value) (ks : List Str) => [.arr v 9 1 (ks.map fun k => [AV.str k])]) (fun (i : Nat) (v : Value) (ks : List Str) => [(5, AV.is v), (18, AV.int i)]) (fun (i : Nat) (v : Value) (ks : List Str) => s.Cells.length - i) (0) (v14) ([]) ?_ (S7 (by rfl) ⟨rfl, rfl, rfl, rfl, rfl, rfl, rfl, trivial⟩) ?_
 ·exact ⟨Nat.zero_le _, rfl⟩
 intro i v ks hinv
 refine A3 (A2 ?_)
 refine A1 rfl rfl rfl (J8 rfl (A0 rfl) (A0 rfl)) ?_
 refine A5 (A3 ?_)
 refine C8 (A0 rfl) ?_ ?_
 ·intro h19
  have k19 := of_decide_eq_true h19; try simp only [A6] at k19
  have hlt : i < s.Cells.length := by omega
  obtain ⟨c, hx⟩ := get_some hlt
  have hkl : ks.length ≤ 1048576 := by rw [hinv.2]; unfold cKeys; rw [A6, B0]; omega
  refine D1 (A3 (D7 (A3 (A2 ?_))))
  refine A1 rfl rfl rfl (J4 rfl F2 G2 (A0 rfl) (A0 rfl) hx (by first | omega | (simp only [A6, B0, B7, C1, B3, szR] at *; omega))) ?_
  refine A1 rfl rfl rfl (M7 rfl (A0 rfl) S6 G2) ?_
  refine F3 rfl rfl rfl rfl Tryz.zeroValue142 rfl ?_
  intro b7
  refine D5 0 rfl rfl rfl (A0 rfl) (A0 rfl) (E8 _) rfl G2 rfl ?_
  refine A5 (A2 ?_)
  refine A4 rfl rfl rfl rfl rfl ?_
  refine A1 rfl rfl rfl (B6 0 rfl G8 rfl F5 (A0 rfl) rfl) ?_
  refine A1 rfl rfl rfl (B4 0 rfl (A0 rfl) rfl H0 rfl) ?_
  refine A1 rfl rfl rfl (M3 rfl E2 F5 Tryz.zeroValue9 rfl rfl rfl rfl (E7 (A0 rfl) (P4 _) I6) rfl rfl) ?_
  refine M9 (by' := 16) 1 rfl rfl rfl rfl E2 Tryz.type9 rfl rfl rfl rfl rfl rfl (A0 rfl) (A0 rfl) rfl (by first | omega | (simp only [A6, B0, B7, C1, B3, szR] at *; omega)) ?_
  intro v26_1
  refine B2 rfl rfl rfl rfl rfl ?_
  refine A5 (A2 ?_)
  refine A1 rfl rfl rfl (G5 rfl (A0 rfl) B5 (by first | omega | (simp only [A6, B0, B7, C1, B3, szR] at *; omega))) ?_
  refine A4 rfl rfl rfl rfl rfl ?_
  refine A5 ?_
  refine T2 i v ks (i + 1) (v26_1) (ks ++ [c.Key]) ?_ ?_ (N0 1 (by (rw [List.map_append]; rfl)) ⟨rfl, rfl, rfl, rfl, rfl, rfl, rfl, trivial⟩)
  ·exact ⟨by omega, by rw [hinv.2]; unfold cKeys; rw [List.take_add_one, hx, List.map_append]; rfl⟩
  ·omega
 ·intro h19
  have k19 := of_decide_eq_false h19; try simp only [A6] at k19
  have hge : s.Cells.length ≤ i := by omega
  have hks : ks = cKeys s.Cells := by rw [hinv.2, List.take_of_length_le hge]
  refine H4 ?_
  refine A3 (A3 (A2 ?_))
  refine A4 rfl rfl rfl rfl rfl ?_
  refine A1 rfl rfl rfl (H3 rfl E5 (A0 rfl)) ?_
  refine A1 rfl rfl rfl (C4 rfl B5) ?_
  refine A5 (D7 ?_)
  refine U3 [(1, _), (2, _), (28, _), (29, _)] _ (fun (q : Nat) (v1 : Value) (k1 : List Str) => q ≤ held.length ∧ k1 = cKeys s.Cells ++ wKeys (hWs (held.take q)) ∧ (hWs held).all p = (hWs (held.drop q)).all p) (fun (q : Nat) (v1 : Value) (k1 : List Str) => [.arr v1 9 1 (k1.map fun k => [AV.str k])]) (fun (q : Nat) (v1 : Value) (k1 : List Str) => [(5, AV.is v1), (30, AV.int q)]) (fun (q : Nat) (v1 : Value) (k1 : List Str) => held.length - q) (0) (v) (ks) ?_ (S7 (by rfl) ⟨rfl, rfl, rfl, rfl, rfl, rfl, trivial⟩) ?_
  ·exact ⟨Nat.zero_le _, by rw [hks, List.take_zero]; simp [hWs, wKeys], rfl⟩
  intro q v1 k1 hinv
  refine A3 (A2 ?_)
  refine A1 rfl rfl rfl (J8 rfl (A0 rfl) (A0 rfl)) ?_
  refine A5 (A3 ?_)
  refine C8 (A0 rfl) ?_ ?_
  ·intro h31
   have k31 := of_decide_eq_true h31; try simp only [A6] at k31
   have hlt : q < held.length := by omega
   obtain ⟨h, hh0⟩ := get_some hlt
   obtain ⟨g1, g2, g3, g4, g5⟩ := Y3 hh hh0
   have hinv1 := hinv
   refine D1 (A3 (D7 (A3 (A2 ?_))))
   refine A1 rfl rfl rfl (J4 rfl E5 E1 (A0 rfl) (A0 rfl) hh0 (by first | omega | (simp only [A6, B0, B7, C1, B3, szR] at *; omega))) ?_
   refine A1 rfl rfl rfl (M7 rfl (A0 rfl) J3 E1) ?_
   refine F3 rfl rfl rfl rfl Tryz.zeroValue45 rfl ?_
   intro b9
   refine D5 0 rfl rfl rfl (A0 rfl) (A0 rfl) (E8 _) rfl E1 rfl ?_
   refine A5 (A3 (A2 ?_))
   refine A1 rfl rfl rfl (B6 4 rfl E9 rfl J7 (A0 rfl) rfl) ?_
   refine A1 rfl rfl rfl (B4 0 rfl (A0 rfl) rfl L3 rfl) ?_
   refine A1 rfl rfl rfl (H3 rfl G4 (A0 rfl)) ?_
   refine A1 rfl rfl rfl (C4 rfl B5) ?_
   refine A5 (D7 ?_)
   refine AWP.le (K1 [1] rfl) ?_
   refine U3 [(1, _), (2, _), (9, _), (28, _), (29, _), (30, _), (31, _), (32, _), (33, _), (34, _), (35, _), (36, _)] _ (fun (r : Nat) (v2 : Value) (k2 : List Str) => r ≤ h.Writes.length ∧ k2 = k1 ++ wKeys (h.Writes.take r) ∧ h.Writes.all p = (h.Writes.drop r).all p) (fun (r : Nat) (v2 : Value) (k2 : List Str) => [.arr v2 9 1 (k2.map fun k => [AV.str k])]) (fun (r : Nat) (v2 : Value) (k2 : List Str) => [(5, AV.is v2), (37, AV.int r)]) (fun (r : Nat) (v2 : Value) (k2 : List Str) => h.Writes.length - r) (0) (v1) (k1) ?_ (S7 (by rfl) ⟨rfl, rfl, rfl, rfl, rfl, rfl, rfl, rfl, rfl, rfl, rfl, rfl, rfl, rfl, trivial⟩) ?_
   ·exact ⟨Nat.zero_le _, by simp [wKeys], rfl⟩
   intro r v2 k2 hinv
   refine A3 (A2 ?_)
   refine A1 rfl rfl rfl (J8 rfl (A0 rfl) (A0 rfl)) ?_
   refine A5 (A3 ?_)
   refine C8 (A0 rfl) ?_ ?_
   ·intro h38
    have k38 := of_decide_eq_true h38; try simp only [A6] at k38
    have hlt2 : r < h.Writes.length := by omega
    obtain ⟨w, hw⟩ := get_some hlt2
    obtain ⟨c, hc0⟩ := AA2 s.Cells (cPos s.Cells w.Key)
    have hc1 : cHas s.Cells w.Key = true → s.Cells[cPos s.Cells w.Key]? = some c := fun e => by (obtain ⟨y, hy, _⟩ := AC3.1 e; exact hc0 (List.getElem?_eq_some_iff.1 hy).1)
    have hfu := Am8 hca hc1
    have hk2l : k2.length ≤ 3145728 := by rw [hinv.2.1, hinv1.2.1]; have := Aa8 s.Cells.length q hs1 hh; rw [List.take_length] at this; unfold wKeys at this ⊢; simp only [J9, A6, B0] at this ⊢; omega
    refine D1 (A3 (D7 (A3 (A2 ?_))))
    refine A1 rfl rfl rfl (J4 rfl G4 H9 (A0 rfl) (A0 rfl) hw (by first | omega | (simp only [A6, B0, B7, C1, B3, szR] at *; omega))) ?_
    refine A1 rfl rfl rfl (M7 rfl (A0 rfl) S9 H9) ?_
    refine F3 rfl rfl rfl rfl Tryz.zeroValue77 rfl ?_
    intro b11
    refine D5 0 rfl rfl rfl (A0 rfl) (A0 rfl) (E8 _) rfl H9 rfl ?_
    refine A5 (A3 (A3 (A2 ?_)))
    refine A1 rfl rfl rfl (B6 1 rfl D4 rfl P8 (A0 rfl) rfl) ?_
    refine A1 rfl rfl rfl (B4 3 rfl (A0 rfl) rfl Q8 rfl) ?_
    refine A1 rfl rfl rfl (B6 0 rfl I3 rfl F5 (A0 rfl) rfl) ?_
    refine A1 rfl rfl rfl (B4 0 rfl (A0 rfl) rfl H0 rfl) ?_
    refine A1 rfl rfl rfl (D6 rfl Tryz.call189 rfl (AD9 s.Cells w.Key (by omega)) (A7 (A0 rfl) (A7 (A0 rfl) C0))) ?_
    refine A4 rfl rfl rfl rfl rfl ?_
    refine A1 rfl rfl rfl (D0 rfl (A0 rfl) rfl) ?_
    refine A1 rfl rfl rfl (D0 rfl (A0 rfl) rfl) ?_
    refine B2 rfl rfl rfl rfl rfl ?_
    refine B2 rfl rfl rfl rfl rfl ?_
    refine A5 (A3 (A2 ?_))
    refine A4 rfl rfl rfl rfl rfl ?_
    refine A4 rfl rfl rfl rfl rfl ?_
    refine A9 rfl rfl (B1 rfl rfl rfl) (fun hc => B6 1 rfl D4 rfl P8 (A0 rfl) rfl) ?_
    refine A9 rfl rfl (B1 rfl rfl rfl) (fun hc => B4 3 rfl (A8 rfl hc) rfl Q8 rfl) ?_
    refine A9 rfl rfl (B1 rfl rfl rfl) (fun hc => C4 rfl (A0 rfl)) ?_
    refine A9 rfl rfl (B1 rfl rfl rfl) (fun hc => q6 rfl F2 G2 (A8 rfl hc) (A8 rfl hc) (by have := (List.getElem?_eq_some_iff.1 (hc1 hc)).1; omega) (by rw [Int.toNat_natCast, List.getElem?_map, hc1 hc]; rfl)) ?_
    refine A9 rfl rfl (B1 rfl rfl rfl) (fun hc => U2 rfl G8 rfl Q0 (A8 rfl hc) rfl) ?_
    refine A9 rfl rfl (B1 rfl rfl rfl) (fun hc => L6 rfl (A8 rfl hc) R7 rfl) ?_
    refine A9 rfl rfl (B1 rfl rfl rfl) (fun hc => H3 rfl K2 (A8 rfl hc)) ?_
    refine A9 rfl rfl (B1 rfl rfl rfl) (fun hc => X4 rfl (A8 rfl hc) B5) ?_
    refine A1 rfl rfl rfl (G1 rfl (A0 rfl) (E3 rfl)) ?_
    refine A5 ?_
    refine C8 (A0 rfl) ?_ ?_
    ·intro h59
     have hpw : p w = false := by rw [hp]; simp only [Bool.not_eq_false']; rw [hfu]; simpa using h59
     have hro : room s.Cells (hWs held) = false := by (unfold room; rw [show ((hWs held).all fun w => !fullC s.Cells w.Key) = false from by rw [← hp, hinv1.2.2, drop_some hh0, AC6, List.all_append, hinv.2.2, drop_some hw, List.all_cons, hpw]; rfl]; rfl)
     refine A3 (A2 ?_)
     refine A1 rfl rfl rfl (B8 rfl F0) ?_
     refine A5 ?_
     refine C6 ?_
     exact H1 rfl (C3 rfl (by first | exact congrArg AV.bool (by rw [hro]; simp) | exact congrArg AV.bool (by rw [hre, Bool.eq_iff_iff]; simp only [Bool.and_eq_true, decide_eq_true_eq, decide_eq_false_iff_not, A6, Bool.false_eq_true, and_false, false_and, false_iff] at *; omega)))
    ·intro h59
     have hpw : p w = true := by rw [hp]; simp only [Bool.not_eq_true']; rw [hfu]; simpa using h59
     refine D1 (A2 ?_)
     refine A4 rfl rfl rfl rfl rfl ?_
     refine A1 rfl rfl rfl (B6 0 rfl I3 rfl F5 (A0 rfl) rfl) ?_
     refine A1 rfl rfl rfl (B4 0 rfl (A0 rfl) rfl H0 rfl) ?_
     refine A1 rfl rfl rfl (M3 rfl E2 F5 Tryz.zeroValue9 rfl rfl rfl rfl (E7 (A0 rfl) (P4 _) I6) rfl rfl) ?_
     refine M9 (by' := 16) 1 rfl rfl rfl rfl E2 Tryz.type9 rfl rfl rfl rfl rfl rfl (A0 rfl) (A0 rfl) rfl (by first | omega | (simp only [A6, B0, B7, C1, B3, szR] at *; omega)) ?_
     intro v64_2
     refine B2 rfl rfl rfl rfl rfl ?_
     refine A5 (A2 ?_)
     refine A1 rfl rfl rfl (G5 rfl (A0 rfl) B5 (by first | omega | (simp only [A6, B0, B7, C1, B3, szR] at *; omega))) ?_
     refine A4 rfl rfl rfl rfl rfl ?_
     refine A5 ?_
     refine T2 r v2 k2 (r + 1) (v64_2) (k2 ++ [w.Key]) ?_ ?_ (Le.trans (K1 [0, 0] rfl) (N0 1 (by (rw [List.map_append]; rfl)) ⟨rfl, rfl, rfl, rfl, rfl, rfl, rfl, rfl, rfl, rfl, rfl, rfl, rfl, rfl, trivial⟩))
     ·exact ⟨by omega, by rw [hinv.2.1]; unfold wKeys; rw [List.take_add_one, hw, List.map_append, List.append_assoc]; rfl, by rw [hinv.2.2, drop_some hw, List.all_cons, hpw]; rfl⟩
     ·omega
   ·intro h38
    have k38 := of_decide_eq_false h38; try simp only [A6] at k38
    have hge2 : h.Writes.length ≤ r := by omega
    have hk2 : k2 = k1 ++ wKeys h.Writes := by rw [hinv.2.1, List.take_of_length_le hge2]
    have hal : h.Writes.all p = true := by rw [hinv.2.2, List.drop_eq_nil_of_le hge2]; rfl
    refine H4 ?_
    refine A2 ?_
    refine A1 rfl rfl rfl (G5 rfl (A0 rfl) B5 (by first | omega | (simp only [A6, B0, B7, C1, B3, szR] at *; omega))) ?_
    refine A4 rfl rfl rfl rfl rfl ?_
    refine A5 ?_
    refine T2 q v1 k1 (q + 1) (v2) (k2) ?_ ?_ (Le.trans (K1 [1, 0] rfl) (N0 1 (by rfl) ⟨rfl, rfl, rfl, rfl, rfl, rfl, trivial⟩))
    ·exact ⟨by omega, by rw [hk2, hinv1.2.1, Aa6 hh0]; simp [wKeys], by rw [hinv1.2.2, drop_some hh0, AC6, List.all_append, hal]; rfl⟩
    ·omega
  ·intro h31
   have k31 := of_decide_eq_false h31; try simp only [A6] at k31
   have hge : held.length ≤ q := by omega
   have hk9 : k1 = cKeys s.Cells ++ wKeys (hWs held) := by rw [hinv.2.1, List.take_of_length_le hge]
   have hal9 : (hWs held).all p = true := by rw [hinv.2.2, List.drop_eq_nil_of_le hge]; rfl
   have hln := Aa8 s.Cells.length held.length hs1 hh
   rw [List.take_length, List.take_length, ← hk9] at hln
   have hre : room s.Cells (hWs held) = decide ((cmpL (sortS k1)).length ≤ 24) := by (unfold room roomKs keysI; rw [← hp, hal9, ← hk9]; rfl)
   refine H4 ?_
   refine A3 (A2 ?_)
   refine A4 rfl rfl rfl rfl rfl ?_
   refine G0 [0] rfl rfl rfl rfl Tryz.call246 rfl (Aa5 _ k1 (by omega)) (A7 (A0 rfl) C0) rfl ?_
   intro x68 ok68
   refine A5 (A3 (A2 ?_))
   refine A4 rfl rfl rfl rfl rfl ?_
   refine A1 rfl rfl rfl (H3 rfl E5 (A0 rfl)) ?_
   refine A1 rfl rfl rfl (S0 rfl (A0 rfl) B5) ?_
   refine A4 rfl rfl rfl rfl rfl ?_
   refine A9 rfl rfl (B1 rfl rfl rfl) (fun hc => C4 rfl (A0 rfl)) ?_
   refine AM8 rfl rfl (B1 rfl rfl rfl) ?_ ?_
   ·intro gh74
    refine G0 [0] rfl rfl rfl rfl Tryz.call247 rfl (AR8 _ (sortS k1) (by rw [AG0]; omega)) (A7 (A8 rfl gh74) C0) rfl ?_
    intro x74 ok74
    refine A9 rfl rfl (B1 rfl rfl rfl) (fun hc => U5 0 rfl E2 (A0 rfl) rfl) ?_
    refine A9 rfl rfl (B1 rfl rfl rfl) (fun hc => S0 rfl (A8 rfl hc) B5) ?_
    refine A1 rfl rfl rfl (G1 rfl (A0 rfl) (E3 rfl)) ?_
    refine B2 rfl rfl rfl rfl rfl ?_
    refine A5 ?_
    refine C6 ?_
    exact H1 rfl (C3 rfl (by first | exact congrArg AV.bool (by rw [hro]; simp) | exact congrArg AV.bool (by rw [hre, Bool.eq_iff_iff]; simp only [Bool.and_eq_true, decide_eq_true_eq, decide_eq_false_iff_not, A6, Bool.false_eq_true, and_false, false_and, false_iff] at *; omega)))
   ·intro gh74
    refine AM8 rfl rfl (B1 rfl rfl rfl) (fun hq => by rw [gh74] at hq; cases hq) (fun _ => ?_)
    refine AM8 rfl rfl (B1 rfl rfl rfl) (fun hq => by rw [gh74] at hq; cases hq) (fun _ => ?_)
    refine A1 rfl rfl rfl (G1 rfl (A0 rfl) (evif_no (x := AV.bool false) gh74)) ?_
    refine B2 rfl rfl rfl rfl rfl ?_
    refine A5 ?_
    refine C6 ?_
    exact H1 rfl (C3 rfl (by first | exact congrArg AV.bool (by rw [hro]; simp) | exact congrArg AV.bool (by rw [hre, Bool.eq_iff_iff]; simp only [Bool.and_eq_true, decide_eq_true_eq, decide_eq_false_iff_not, A6, Bool.false_eq_true, and_false, false_and, false_iff] at *; omega)))
theorem AX0 (h k : THeld) (h1 : h.Writes.length ≤ 4611686018427387903) (ha : adj wLess h.Writes = true) (hk : adj wLess k.Writes = true ∧ k.Writes.length ≤ 4611686018427387903) : FSpec Tryz.prog 184 [AV.agg k.cs, AV.eptr h.cs] (AV.bool (clash h k)) := by
 obtain ⟨ka, k1⟩ := hk
 refine D9 Tryz.func184 rfl Tryz.ntmps184 rfl ?_
 refine A3 (A2 ?_)
 refine J6 rfl rfl rfl rfl (A0 rfl) ?_
 intro b2
 refine A1 rfl rfl rfl (B8 rfl F0) ?_
 refine A5 (A3 (A2 ?_))
 refine A1 rfl rfl rfl (M7 rfl (A0 rfl) J3 E1) ?_
 refine A1 rfl rfl rfl (E4 0 rfl (A0 rfl) rfl J3 E1 rfl) ?_
 refine A1 rfl rfl rfl (D6 rfl Tryz.call185 rfl (Aj1 _ _ (by first | assumption | omega) (by first | assumption | omega) (by assumption) (by assumption)) (A7 (A0 rfl) (A7 (A0 rfl) C0))) ?_
 refine B2 rfl rfl rfl rfl rfl ?_
 refine A5 ?_
 refine C6 ?_
 exact H1 rfl (C3 rfl (by first | rfl | (refine congrArg AV.bool ?_; simp_all; done)))
theorem AX1 (h : THeld) (s : TState) (w : TWrite) (ho : CellsOk s.Cells) (hs : sizeL TCell.size s.Cells ≤ 1048576) : FSpec Tryz.prog 187 [AV.agg w.cs, AV.eptr h.cs, AV.eptr s.cs] (AV.bool (decide (h.Time ≤ lastTime s.Cells w.Key))) := by
 refine D9 Tryz.func187 rfl Tryz.ntmps187 rfl ?_
 refine A3 (A2 ?_)
 refine J6 rfl rfl rfl rfl (A0 rfl) ?_
 intro b3
 refine A1 rfl rfl rfl (B8 rfl F0) ?_
 refine A5 (A3 ?_)
 refine K0 (by kernel_rfl) (by kernel_rfl) rfl ?_
 refine C2 rfl rfl (U2 rfl E9 rfl B9 (A0 rfl) rfl) ?_
 refine C2 rfl rfl (L6 rfl (A0 rfl) C7 rfl) ?_
 refine C2 rfl rfl (U2 rfl D4 rfl P8 (A0 rfl) rfl) ?_
 refine C2 rfl rfl (L6 rfl (A0 rfl) Q8 rfl) ?_
 refine C2 rfl rfl (B6 0 rfl I3 rfl F5 (A0 rfl) rfl) ?_
 refine C2 rfl rfl (B4 0 rfl (A0 rfl) rfl H0 rfl) ?_
 refine C2 rfl rfl (D6 rfl Tryz.call93 rfl (AE0 _ _ (by first | assumption | exact U6 (by assumption)) (by first | assumption | omega)) (A7 (A0 rfl) (A7 (A0 rfl) C0))) ?_
 refine C2 rfl rfl (S0 rfl (A0 rfl) (A0 rfl)) ?_
 refine C2 rfl rfl (B8 rfl (A0 rfl)) ?_
 refine Q9 ?_
 refine C6 ?_
 exact H1 rfl (C3 rfl (by first | rfl | (refine congrArg AV.bool ?_; simp_all; done)))
theorem Aa9 (s : TState) (hg : goodCells s.Cells = true) (hs : s.size ≤ 1048576) : FSpec Tryz.prog 92 [AV.agg s.cs] (AV.bool (areHeld s)) := by
 obtain ⟨hs1, hs2, hs3, hs4, hs5⟩ := T6 hs
 have hco := U6 hg
 refine D9 Tryz.func92 rfl Tryz.ntmps92 rfl ?_
 refine A3 (A2 ?_)
 refine J6 rfl rfl rfl rfl (A0 rfl) ?_
 intro b1
 refine A1 rfl rfl rfl (B8 rfl F0) ?_
 refine A5 (A3 (A3 (A2 ?_)))
 refine A1 rfl rfl rfl (B6 2 rfl D4 rfl I1 (A0 rfl) rfl) ?_
 refine A1 rfl rfl rfl (B4 0 rfl (A0 rfl) rfl M0 rfl) ?_
 refine A1 rfl rfl rfl (H3 rfl E5 (A0 rfl)) ?_
 refine A1 rfl rfl rfl (C4 rfl B5) ?_
 refine A5 (D7 ?_)
 refine J0 [(1, _), (6, _), (7, _)] _ (fun (i : Nat) => i ≤ s.Held.length ∧ ∀ j, j < i → heldAt s j = true) (fun (i : Nat) => []) (fun (i : Nat) => [(8, AV.int i)]) (fun (i : Nat) => s.Held.length - i) (0) ?_ (J1 ⟨rfl, rfl, rfl, rfl, trivial⟩) ?_
 ·exact ⟨Nat.zero_le _, fun j hj => by omega⟩
 intro i hinv
 refine A3 (A2 ?_)
 refine A1 rfl rfl rfl (J8 rfl (A0 rfl) (A0 rfl)) ?_
 refine A5 (A3 ?_)
 refine C8 (A0 rfl) ?_ ?_
 ·intro h9
  have k9 := of_decide_eq_true h9; try simp only [A6] at k9
  have hlt : i < s.Held.length := by omega
  obtain ⟨h, hx⟩ := get_some hlt
  obtain ⟨y, hy⟩ := get_some (show i - 1 < s.Held.length by omega)
  obtain ⟨g1, g2, g3, g4, g5⟩ := Y3 hs2 hx
  refine D1 (A3 (D7 (A3 (A2 ?_))))
  refine A4 rfl rfl rfl rfl rfl ?_
  refine A1 rfl rfl rfl (J4 rfl E5 E1 (A0 rfl) (A0 rfl) hx (by first | omega | (simp only [A6, B0, B7, C1, B3, szR] at *; omega))) ?_
  refine A1 rfl rfl rfl (M7 rfl (A0 rfl) J3 E1) ?_
  refine F3 rfl rfl rfl rfl Tryz.zeroValue45 rfl ?_
  intro b4
  refine B2 rfl rfl rfl rfl rfl ?_
  refine D5 0 rfl rfl rfl (A0 rfl) (A0 rfl) (E8 _) rfl E1 rfl ?_
  refine A5 (A3 (A3 ?_))
  refine K0 (by kernel_rfl) (by kernel_rfl) rfl ?_
  refine C2 rfl rfl (E4 0 rfl (A0 rfl) rfl J3 E1 rfl) ?_
  refine C2 rfl rfl (D6 rfl Tryz.call182 rfl (rec_spec _) (A7 (A0 rfl) C0)) ?_
  refine C2 rfl rfl (D6 rfl Tryz.call83 rfl (Aa3 _ (by first | assumption | omega)) (A7 (A0 rfl) C0)) ?_
  refine C2 rfl rfl (I4 rfl (A0 rfl)) ?_
  refine C2 rfl rfl (C4 rfl (A0 rfl)) ?_
  refine D8 rfl (C9 rfl rfl rfl) (fun hc => B6 1 rfl E9 rfl B9 (A0 rfl) rfl) ?_
  refine D8 rfl (C9 rfl rfl rfl) (fun hc => B4 0 rfl (A8 rfl hc) rfl C7 rfl) ?_
  refine D8 rfl (C9 rfl rfl rfl) (fun hc => B6 0 rfl D4 rfl B9 (A0 rfl) rfl) ?_
  refine D8 rfl (C9 rfl rfl rfl) (fun hc => B4 1 rfl (A8 rfl hc) rfl C7 rfl) ?_
  refine D8 rfl (C9 rfl rfl rfl) (fun hc => O5 rfl (A8 rfl hc) (A8 rfl hc)) ?_
  refine C2 rfl rfl (N4 rfl (A0 rfl) (E3 rfl)) ?_
  refine C2 rfl rfl (C4 rfl (A0 rfl)) ?_
  refine D8 rfl (C9 rfl rfl rfl) (fun hc => C4 rfl (A0 rfl)) ?_
  refine D8 rfl (C9 rfl rfl rfl) (fun hc => O5 rfl (A8 rfl hc) B5) ?_
  refine D8 rfl (C9 rfl rfl rfl) (fun hc => C4 rfl (A8 rfl hc)) ?_
  refine D8 rfl (E0 rfl rfl rfl) (fun hc => B6 0 rfl E9 rfl B9 (A0 rfl) rfl) ?_
  refine D8 rfl (E0 rfl rfl rfl) (fun hc => B4 0 rfl (A8 rfl hc) rfl C7 rfl) ?_
  refine D8 rfl (E0 rfl rfl rfl) (fun hc => B6 2 rfl D4 rfl I1 (A0 rfl) rfl) ?_
  refine D8 rfl (E0 rfl rfl rfl) (fun hc => B4 1 rfl (A8 rfl hc) rfl M0 rfl) ?_
  refine D8 rfl (E0 rfl rfl rfl) (fun hc => C4 rfl (A0 rfl)) ?_
  refine D8 rfl (E0 rfl rfl rfl) (fun hc => N1 rfl (A8 rfl hc) B5 (by first | omega | ((try simp only [A6, B0, B7, C1, B3, szR] at *); omega) | (have hc2 := hc; simp only [Bool.and_eq_true, Bool.or_eq_true, Bool.or_eq_false_iff, Bool.and_eq_false_iff, Bool.not_eq_true', Bool.not_eq_false', decide_eq_true_eq, decide_eq_false_iff_not, beq_iff_eq, bne_iff_ne, A6, B0] at hc2; omega))) ?_
  refine D8 rfl (E0 rfl rfl rfl) (fun hc => J4 rfl E5 E1 (A8 rfl hc) (A8 rfl hc) hy (by first | omega | ((try simp only [A6, B0, B7, C1, B3, szR] at *); omega) | (have hc2 := hc; simp only [Bool.and_eq_true, Bool.or_eq_true, Bool.or_eq_false_iff, Bool.and_eq_false_iff, Bool.not_eq_true', Bool.not_eq_false', decide_eq_true_eq, decide_eq_false_iff_not, beq_iff_eq, bne_iff_ne, A6, B0] at hc2; omega))) ?_
  refine D8 rfl (E0 rfl rfl rfl) (fun hc => U2 rfl E9 rfl B9 (A8 rfl hc) rfl) ?_
  refine D8 rfl (E0 rfl rfl rfl) (fun hc => L6 rfl (A8 rfl hc) C7 rfl) ?_
  refine D8 rfl (E0 rfl rfl rfl) (fun hc => S0 rfl (A8 rfl hc) (A8 rfl hc)) ?_
  refine D8 rfl (C9 rfl rfl rfl) (fun hc => G1 rfl (A8 rfl hc) (Q1 rfl hc)) ?_
  refine C2 rfl rfl (N4 rfl (A0 rfl) (E3 rfl)) ?_
  refine Q9 ?_
  refine C8 (A0 rfl) ?_ ?_
  ·intro h39
   have hfin : areHeld s = false := by (unfold areHeld; rw [W7 hlt (by rw [p5 hx hy, h39]; rfl)]; rfl)
   refine A3 (A2 ?_)
   refine A1 rfl rfl rfl (B8 rfl F0) ?_
   refine A5 ?_
   refine C6 ?_
   exact H1 rfl (C3 rfl (by first | exact congrArg AV.bool hfin.symm | exact congrArg AV.bool (by unfold areHeld; rw [hall]; rfl)))
  ·intro h39
   have hgr : goodRec (hRec h) = true := by (simp only [Bool.or_eq_false_iff, Bool.not_eq_false'] at h39; exact h39.1.1)
   have hwa := AM9 hgr
   have hwl : h.Writes.length ≤ 4611686018427387903 := by omega
   have hpre : ∀ g ∈ s.Held.take i, adj wLess g.Writes = true ∧ g.Writes.length ≤ 4611686018427387903 := fun g hm => by (obtain ⟨j, hj⟩ := List.getElem?_of_mem hm; have hjl := (List.getElem?_eq_some_iff.1 hj).1; rw [B0] at hjl; rw [List.getElem?_take_of_lt (by omega)] at hj; have k1 := Y3 hs2 hj; exact ⟨AM9 (AK4 hj (hinv.2 j (by omega))).1, by omega⟩)
   refine D1 (A3 (A3 (A2 ?_)))
   refine A1 rfl rfl rfl (B6 2 rfl D4 rfl I1 (A0 rfl) rfl) ?_
   refine A1 rfl rfl rfl (B4 1 rfl (A0 rfl) rfl M0 rfl) ?_
   refine A4 rfl rfl rfl rfl rfl ?_
   refine A1 rfl rfl rfl (u6 rfl E5 E1 (A0 rfl) (A0 rfl) (by first | omega | (simp only [A6, B0, B7, C1, B3, szR] at *; omega)) (by first | omega | (simp only [A6, B0, B7, C1, B3, szR] at *; omega))) ?_
   refine A1 rfl rfl rfl (w_clo rfl rfl (A7 (A0 rfl) C0)) ?_
   refine A1 rfl rfl rfl (j8 rfl Tryz.call183 rfl (AA3 (s.Held.take i) (fun g => adj wLess g.Writes = true ∧ g.Writes.length ≤ 4611686018427387903) (fun g => clash h g) hpre) (F7 _) (S1 (evb (A0 rfl)) (S1 (AB5 (evb_clo1 0 (A0 rfl) rfl) (AL6 Tryz.call184 (fun g hg => AX0 _ g (by first | assumption | omega) (by assumption) hg))) Z6))) ?_
   refine A5 ?_
   refine C8 (A0 rfl) ?_ ?_
   ·intro h45
    have hfin : areHeld s = false := by (unfold areHeld; rw [W7 hlt (by rw [p5 hx hy, h45]; simp)]; rfl)
    refine A3 (A2 ?_)
    refine A1 rfl rfl rfl (B8 rfl F0) ?_
    refine A5 ?_
    refine C6 ?_
    exact H1 rfl (C3 rfl (by first | exact congrArg AV.bool hfin.symm | exact congrArg AV.bool (by unfold areHeld; rw [hall]; rfl)))
   ·intro h45
    refine D1 (A3 (A2 ?_))
    refine A1 rfl rfl rfl (B6 4 rfl E9 rfl J7 (A0 rfl) rfl) ?_
    refine A1 rfl rfl rfl (B4 0 rfl (A0 rfl) rfl L3 rfl) ?_
    refine A1 rfl rfl rfl (w_clo rfl rfl (A7 (A0 rfl) (A7 (A0 rfl) C0))) ?_
    refine A1 rfl rfl rfl (j8 rfl Tryz.call186 rfl (Z7 _ _ _ (by first | (intros; trivial) | assumption | (intros; first | trivial | (simp_all; done)))) (F7 _) (S1 (evb (A0 rfl)) (S1 (AB5 (AZ1 0 1 (A0 rfl) rfl rfl) (AL6 Tryz.call187 (fun w (_ : True) => AX1 _ _ w (by assumption) (by first | assumption | omega)))) Z6))) ?_
    refine A5 ?_
    refine C8 (A0 rfl) ?_ ?_
    ·intro h49
     have hfin : areHeld s = false := by (unfold areHeld; rw [W7 hlt (by rw [p5 hx hy, h49]; simp)]; rfl)
     refine A3 (A2 ?_)
     refine A1 rfl rfl rfl (B8 rfl F0) ?_
     refine A5 ?_
     refine C6 ?_
     exact H1 rfl (C3 rfl (by first | exact congrArg AV.bool hfin.symm | exact congrArg AV.bool (by unfold areHeld; rw [hall]; rfl)))
    ·intro h49
     refine D1 (A2 ?_)
     refine A1 rfl rfl rfl (G5 rfl (A0 rfl) B5 (by first | omega | (simp only [A6, B0, B7, C1, B3, szR] at *; omega))) ?_
     refine A4 rfl rfl rfl rfl rfl ?_
     refine A5 ?_
     refine L2 i (i + 1) ?_ ?_ (T3 1 ⟨rfl, rfl, rfl, rfl, trivial⟩)
     ·exact ⟨by omega, fun j hj => if hji : j < i then hinv.2 j hji else (by have e : j = i := (by omega); subst e; rw [p5 hx hy, h39, h45, h49]; rfl)⟩
     ·omega
 ·intro h9
  have k9 := of_decide_eq_false h9; try simp only [A6] at k9
  have hge : s.Held.length ≤ i := by omega
  have hall : allB s.Held.length (heldAt s) = true := j5.2 fun j hj => hinv.2 j (by omega)
  refine H4 ?_
  refine A3 (A2 ?_)
  refine A1 rfl rfl rfl (E4 0 rfl (A0 rfl) rfl F1 D3 rfl) ?_
  refine A1 rfl rfl rfl (B6 2 rfl D4 rfl I1 (A0 rfl) rfl) ?_
  refine A1 rfl rfl rfl (B4 0 rfl (A0 rfl) rfl M0 rfl) ?_
  refine A1 rfl rfl rfl (D6 rfl Tryz.call188 rfl (Am9 _ _ (by assumption) (by first | assumption | omega) (by first | assumption | omega)) (A7 (A0 rfl) (A7 (A0 rfl) C0))) ?_
  refine B2 rfl rfl rfl rfl rfl ?_
  refine A5 ?_
  refine C6 ?_
  exact H1 rfl (C3 rfl (by first | exact congrArg AV.bool hfin.symm | exact congrArg AV.bool (by unfold areHeld; rw [hall]; rfl)))
theorem AR9 (h : THeld) (n : Int) : FSpec Tryz.prog 191 [AV.agg h.cs, AV.int n] (AV.int (hCmp n h)) := by
 refine D9 Tryz.func191 rfl Tryz.ntmps191 rfl ?_
 refine A3 (A2 ?_)
 refine J6 rfl rfl rfl rfl (A0 rfl) ?_
 intro b2
 refine A1 rfl rfl rfl (B8 rfl B5) ?_
 refine A5 (A3 (A2 ?_))
 refine A1 rfl rfl rfl (B6 0 rfl E9 rfl B9 (A0 rfl) rfl) ?_
 refine A1 rfl rfl rfl (B4 0 rfl (A0 rfl) rfl C7 rfl) ?_
 refine A4 rfl rfl rfl rfl rfl ?_
 refine A1 rfl rfl rfl (D6 rfl Tryz.call192 rfl (Ad6 _ _) (A7 (A0 rfl) (A7 (A0 rfl) C0))) ?_
 refine B2 rfl rfl rfl rfl rfl ?_
 refine A5 ?_
 refine C6 ?_
 exact H1 rfl (C3 rfl (by first | rfl | (refine congrArg AV.bool ?_; simp_all; done)))
theorem Ab0 (f : Int) (c t : List (List AV)) (l : List THeld) (n : Int) (hs : l.length ≤ 1048576) : FSpec Tryz.prog 96 [AV.agg [AV.int f, AV.list 2 c, AV.list 5 (l.map THeld.cs), AV.list 3 t], AV.int n] (AV.tup [AV.int (hPos l n), AV.bool (hHas l n)]) := by
 refine D9 Tryz.func96 rfl Tryz.ntmps96 rfl ?_
 refine A3 (A2 ?_)
 refine J6 rfl rfl rfl rfl (A0 rfl) ?_
 intro b2
 refine A1 rfl rfl rfl (B8 rfl B5) ?_
 refine A1 rfl rfl rfl (B8 rfl F0) ?_
 refine A5 (A3 (A2 ?_))
 refine A1 rfl rfl rfl (B6 2 rfl D4 rfl I1 (A0 rfl) rfl) ?_
 refine A1 rfl rfl rfl (B4 0 rfl (A0 rfl) rfl M0 rfl) ?_
 refine A4 rfl rfl rfl rfl rfl ?_
 refine A1 rfl rfl rfl (D6 rfl Tryz.call190 rfl (AA5 _ _ _ (by first | (intros; trivial) | assumption | (intros; first | trivial | (simp_all; done))) _ (by omega)) (A7 (A0 rfl) (A7 (A0 rfl) (A7 (AQ7 Tryz.call191 (fun h n (_ : True) => AR9 h n)) C0)))) ?_
 refine A1 rfl rfl rfl (D0 rfl (A0 rfl) rfl) ?_
 refine A1 rfl rfl rfl (D0 rfl (A0 rfl) rfl) ?_
 refine B2 rfl rfl rfl rfl rfl ?_
 refine B2 rfl rfl rfl rfl rfl ?_
 refine A5 ?_
 refine C6 ?_
 exact R5 rfl (by decide) (E6 (C3 rfl (by first | rfl | (refine congrArg AV.bool ?_; simp_all; done))) (E6 (C3 rfl (by first | rfl | (refine congrArg AV.bool ?_; simp_all; done))) I8))
theorem AX2 (s : TState) (n : Int) (hs : s.Held.length ≤ 1048576) : FSpec Tryz.prog 96 [AV.agg s.cs, AV.int n] (AV.tup [AV.int (hPos s.Held n), AV.bool (hHas s.Held n)]) := Ab0 _ _ _ s.Held n hs
theorem AA7 (s : TState) (hs : s.size ≤ 1048576) : FSpec Tryz.prog 15 [AV.agg s.cs] (AV.bool (goodState s)) := by
 obtain ⟨hs1, hs2, hs3, hs4, hs5⟩ := T6 hs
 refine D9 Tryz.func15 rfl Tryz.ntmps15 rfl ?_
 refine A3 (A2 ?_)
 refine J6 rfl rfl rfl rfl (A0 rfl) ?_
 intro b1
 refine A1 rfl rfl rfl (B8 rfl F0) ?_
 refine A5 (A3 (A3 (A2 ?_)))
 refine A1 rfl rfl rfl (B6 0 rfl D4 rfl B9 (A0 rfl) rfl) ?_
 refine A1 rfl rfl rfl (B4 0 rfl (A0 rfl) rfl C7 rfl) ?_
 refine A1 rfl rfl rfl (D6 rfl Tryz.call90 rfl (Y2 _) (A7 (A0 rfl) C0)) ?_
 refine A1 rfl rfl rfl (I4 rfl (A0 rfl)) ?_
 refine A4 rfl rfl rfl rfl rfl ?_
 refine A9 rfl rfl (C9 rfl rfl rfl) (fun hc => B6 1 rfl D4 rfl P8 (A0 rfl) rfl) ?_
 refine A9 rfl rfl (C9 rfl rfl rfl) (fun hc => B4 0 rfl (A8 rfl hc) rfl Q8 rfl) ?_
 refine A9 rfl rfl (C9 rfl rfl rfl) (fun hc => D6 rfl Tryz.call91 rfl (AR6 _ (by first | assumption | omega)) (A7 (A8 rfl hc) C0)) ?_
 refine A9 rfl rfl (C9 rfl rfl rfl) (fun hc => I4 rfl (A8 rfl hc)) ?_
 refine A1 rfl rfl rfl (N4 rfl (A0 rfl) (E3 rfl)) ?_
 refine A4 rfl rfl rfl rfl rfl ?_
 refine A9 rfl rfl (C9 rfl rfl rfl) (fun hc => E4 0 rfl (A0 rfl) rfl F1 D3 rfl) ?_
 refine A9 rfl rfl (C9 rfl rfl rfl) (fun hc => D6 rfl Tryz.call92 rfl (Aa9 s (by have h9 := hc; simp at h9; exact h9.2) hs) (A7 (A8 rfl hc) C0)) ?_
 refine A9 rfl rfl (C9 rfl rfl rfl) (fun hc => I4 rfl (A8 rfl hc)) ?_
 refine A1 rfl rfl rfl (N4 rfl (A0 rfl) (E3 rfl)) ?_
 refine A4 rfl rfl rfl rfl rfl ?_
 refine A9 rfl rfl (C9 rfl rfl rfl) (fun hc => B6 3 rfl D4 rfl P2 (A0 rfl) rfl) ?_
 refine A9 rfl rfl (C9 rfl rfl rfl) (fun hc => B4 0 rfl (A8 rfl hc) rfl T0 rfl) ?_
 refine A9 rfl rfl (C9 rfl rfl rfl) (fun hc => H3 rfl H8 (A8 rfl hc)) ?_
 refine A9 rfl rfl (C9 rfl rfl rfl) (fun hc => O5 rfl (A8 rfl hc) B5) ?_
 refine A1 rfl rfl rfl (N4 rfl (A0 rfl) (E3 rfl)) ?_
 refine A5 ?_
 refine C8 (A0 rfl) ?_ ?_
 ·intro h30
  have hfin : goodState s = false := by (unfold goodState; simp only [Bool.or_eq_true, Bool.not_eq_true', decide_eq_true_eq, A6] at h30; rcases h30 with ((h | h) | h) | h; (rw [h]; rfl); (rw [h]; simp); (rw [h]; simp); (rw [decide_eq_false (show ¬ s.Told.length ≤ 60 by omega)]; simp))
  refine A3 (A2 ?_)
  refine A1 rfl rfl rfl (B8 rfl F0) ?_
  refine A5 ?_
  refine C6 ?_
  exact H1 rfl (C3 rfl (by exact congrArg AV.bool hfin.symm))
 ·intro h30
  simp only [Bool.or_eq_false_iff, Bool.not_eq_false', decide_eq_false_iff_not, A6] at h30
  obtain ⟨⟨⟨q1, q2⟩, q3⟩, q4⟩ := h30
  have hco := U6 q2
  have hsrt := Aa7 q3
  have hgs : goodState s = ((s.Cells.all fun c => decide (lastTime s.Cells c.Key ≤ s.Floor)) && allB s.Told.length (toldAt s)) := by (unfold goodState; rw [q1, q2, q3, decide_eq_true (show s.Told.length ≤ 60 by omega)]; simp)
  refine D1 (A3 (A3 (A2 ?_)))
  refine A1 rfl rfl rfl (B6 1 rfl D4 rfl P8 (A0 rfl) rfl) ?_
  refine A1 rfl rfl rfl (B4 0 rfl (A0 rfl) rfl Q8 rfl) ?_
  refine A1 rfl rfl rfl (H3 rfl F2 (A0 rfl)) ?_
  refine A1 rfl rfl rfl (C4 rfl B5) ?_
  refine A5 (D7 ?_)
  refine J0 [(1, _), (32, _), (33, _)] _ (fun (i : Nat) => i ≤ s.Cells.length ∧ (s.Cells.all fun c => decide (lastTime s.Cells c.Key ≤ s.Floor)) = ((s.Cells.drop i).all fun c => decide (lastTime s.Cells c.Key ≤ s.Floor))) (fun (i : Nat) => []) (fun (i : Nat) => [(34, AV.int i)]) (fun (i : Nat) => s.Cells.length - i) (0) ?_ (J1 ⟨rfl, rfl, rfl, rfl, trivial⟩) ?_
  ·exact ⟨Nat.zero_le _, rfl⟩
  intro i hinv
  refine A3 (A2 ?_)
  refine A1 rfl rfl rfl (J8 rfl (A0 rfl) (A0 rfl)) ?_
  refine A5 (A3 ?_)
  refine C8 (A0 rfl) ?_ ?_
  ·intro h35
   have k35 := of_decide_eq_true h35; try simp only [A6] at k35
   have hlt : i < s.Cells.length := by omega
   obtain ⟨c, hx⟩ := get_some hlt
   refine D1 (A3 (D7 (A3 (A2 ?_))))
   refine A1 rfl rfl rfl (J4 rfl F2 G2 (A0 rfl) (A0 rfl) hx (by first | omega | (simp only [A6, B0, B7, C1, B3, szR] at *; omega))) ?_
   refine A1 rfl rfl rfl (M7 rfl (A0 rfl) S6 G2) ?_
   refine F3 rfl rfl rfl rfl Tryz.zeroValue142 rfl ?_
   intro b4
   refine D5 0 rfl rfl rfl (A0 rfl) (A0 rfl) (E8 _) rfl G2 rfl ?_
   refine A5 (A3 ?_)
   refine K0 (by kernel_rfl) (by kernel_rfl) rfl ?_
   refine C2 rfl rfl (B6 1 rfl D4 rfl P8 (A0 rfl) rfl) ?_
   refine C2 rfl rfl (B4 1 rfl (A0 rfl) rfl Q8 rfl) ?_
   refine C2 rfl rfl (B6 0 rfl G8 rfl F5 (A0 rfl) rfl) ?_
   refine C2 rfl rfl (B4 0 rfl (A0 rfl) rfl H0 rfl) ?_
   refine C2 rfl rfl (D6 rfl Tryz.call93 rfl (AE0 _ _ (by first | assumption | exact U6 (by assumption)) (by first | assumption | omega)) (A7 (A0 rfl) (A7 (A0 rfl) C0))) ?_
   refine C2 rfl rfl (B6 0 rfl D4 rfl B9 (A0 rfl) rfl) ?_
   refine C2 rfl rfl (B4 1 rfl (A0 rfl) rfl C7 rfl) ?_
   refine C2 rfl rfl (O5 rfl (A0 rfl) (A0 rfl)) ?_
   refine Q9 ?_
   refine C8 (A0 rfl) ?_ ?_
   ·intro h45
    have k45 := of_decide_eq_true h45; try simp only [A6] at k45
    have hfin : goodState s = false := by (rw [hgs, hinv.2, drop_some hx, List.all_cons, decide_eq_false (show ¬ lastTime s.Cells c.Key ≤ s.Floor by omega)]; rfl)
    refine A3 (A2 ?_)
    refine A1 rfl rfl rfl (B8 rfl F0) ?_
    refine A5 ?_
    refine C6 ?_
    exact H1 rfl (C3 rfl (by exact congrArg AV.bool hfin.symm))
   ·intro h45
    have k45 := of_decide_eq_false h45; try simp only [A6] at k45
    refine D1 (A2 ?_)
    refine A1 rfl rfl rfl (G5 rfl (A0 rfl) B5 (by first | omega | (simp only [A6, B0, B7, C1, B3, szR] at *; omega))) ?_
    refine A4 rfl rfl rfl rfl rfl ?_
    refine A5 ?_
    refine L2 i (i + 1) ?_ ?_ (T3 1 ⟨rfl, rfl, rfl, rfl, trivial⟩)
    ·exact ⟨by omega, by rw [hinv.2, drop_some hx, List.all_cons, decide_eq_true (show lastTime s.Cells c.Key ≤ s.Floor by omega)]; rfl⟩
    ·omega
  ·intro h35
   have k35 := of_decide_eq_false h35; try simp only [A6] at k35
   have hge : s.Cells.length ≤ i := by omega
   have hgs2 : goodState s = allB s.Told.length (toldAt s) := by (rw [hgs, hinv.2, List.drop_eq_nil_of_le hge]; rfl)
   refine H4 ?_
   refine A3 (A3 (A2 ?_))
   refine A1 rfl rfl rfl (B6 3 rfl D4 rfl P2 (A0 rfl) rfl) ?_
   refine A1 rfl rfl rfl (B4 0 rfl (A0 rfl) rfl T0 rfl) ?_
   refine A1 rfl rfl rfl (H3 rfl H8 (A0 rfl)) ?_
   refine A1 rfl rfl rfl (C4 rfl B5) ?_
   refine A5 (D7 ?_)
   refine J0 [(1, _), (48, _), (49, _)] _ (fun (q : Nat) => q ≤ s.Told.length ∧ ∀ j, j < q → toldAt s j = true) (fun (q : Nat) => []) (fun (q : Nat) => [(50, AV.int q)]) (fun (q : Nat) => s.Told.length - q) (0) ?_ (J1 ⟨rfl, rfl, rfl, rfl, trivial⟩) ?_
   ·exact ⟨Nat.zero_le _, fun j hj => by omega⟩
   intro q hinv
   refine A3 (A2 ?_)
   refine A1 rfl rfl rfl (J8 rfl (A0 rfl) (A0 rfl)) ?_
   refine A5 (A3 ?_)
   refine C8 (A0 rfl) ?_ ?_
   ·intro h51
    have k51 := of_decide_eq_true h51; try simp only [A6] at k51
    have hlt : q < s.Told.length := by omega
    obtain ⟨t, hx⟩ := get_some hlt
    obtain ⟨y, hy⟩ := get_some (show q - 1 < s.Told.length by omega)
    refine D1 (A3 (D7 (A3 (A2 ?_))))
    refine A4 rfl rfl rfl rfl rfl ?_
    refine A1 rfl rfl rfl (J4 rfl H8 K6 (A0 rfl) (A0 rfl) hx (by first | omega | (simp only [A6, B0, B7, C1, B3, szR] at *; omega))) ?_
    refine A1 rfl rfl rfl (M7 rfl (A0 rfl) Y4 K6) ?_
    refine F3 rfl rfl rfl rfl Tryz.zeroValue39 rfl ?_
    intro b6
    refine B2 rfl rfl rfl rfl rfl ?_
    refine D5 0 rfl rfl rfl (A0 rfl) (A0 rfl) (E8 _) rfl K6 rfl ?_
    refine A5 (A3 (A2 ?_))
    refine A1 rfl rfl rfl (B6 1 rfl K4 rfl K5 (A0 rfl) rfl) ?_
    refine A1 rfl rfl rfl (B4 0 rfl (A0 rfl) rfl M6 rfl) ?_
    refine A4 rfl rfl rfl rfl rfl ?_
    refine A9 rfl rfl (B1 rfl rfl rfl) (fun hc => B6 2 rfl K4 rfl B9 (A0 rfl) rfl) ?_
    refine A9 rfl rfl (B1 rfl rfl rfl) (fun hc => B4 0 rfl (A8 rfl hc) rfl C7 rfl) ?_
    refine A9 rfl rfl (B1 rfl rfl rfl) (fun hc => B6 0 rfl D4 rfl B9 (A0 rfl) rfl) ?_
    refine A9 rfl rfl (B1 rfl rfl rfl) (fun hc => B4 1 rfl (A8 rfl hc) rfl C7 rfl) ?_
    refine A9 rfl rfl (B1 rfl rfl rfl) (fun hc => D6 rfl Tryz.call94 rfl (W8 _ _ _) (A7 (A8 rfl hc) (A7 B5 (A7 (A8 rfl hc) C0)))) ?_
    refine A1 rfl rfl rfl (G1 rfl (A0 rfl) (E3 rfl)) ?_
    refine A4 rfl rfl rfl rfl rfl ?_
    refine A9 rfl rfl (C9 rfl rfl rfl) (fun hc => B6 1 rfl K4 rfl K5 (A0 rfl) rfl) ?_
    refine A9 rfl rfl (C9 rfl rfl rfl) (fun hc => B4 0 rfl (A8 rfl hc) rfl M6 rfl) ?_
    refine A9 rfl rfl (C9 rfl rfl rfl) (fun hc => I4 rfl (A8 rfl hc)) ?_
    refine A9 rfl rfl (C9 rfl rfl rfl) (fun hc => C4 rfl (A8 rfl hc)) ?_
    refine A9 rfl rfl (E0 rfl rfl rfl) (fun hc => B6 2 rfl K4 rfl B9 (A0 rfl) rfl) ?_
    refine A9 rfl rfl (E0 rfl rfl rfl) (fun hc => B4 0 rfl (A8 rfl hc) rfl C7 rfl) ?_
    refine A9 rfl rfl (E0 rfl rfl rfl) (fun hc => M5 rfl (A8 rfl hc) B5) ?_
    refine A9 rfl rfl (C9 rfl rfl rfl) (fun hc => G1 rfl (A8 rfl hc) (Q1 rfl hc)) ?_
    refine A1 rfl rfl rfl (N4 rfl (A0 rfl) (E3 rfl)) ?_
    refine B2 rfl rfl rfl rfl rfl ?_
    refine A5 (A3 (A3 ?_))
    refine K0 (by kernel_rfl) (by kernel_rfl) rfl ?_
    refine C2 rfl rfl (B6 0 rfl K4 rfl B9 (A0 rfl) rfl) ?_
    refine C2 rfl rfl (B4 0 rfl (A0 rfl) rfl C7 rfl) ?_
    refine C2 rfl rfl (D6 rfl Tryz.call95 rfl (o3 _) (A7 (A0 rfl) C0)) ?_
    refine C2 rfl rfl (I4 rfl (A0 rfl)) ?_
    refine C2 rfl rfl (C4 rfl (A0 rfl)) ?_
    refine D8 rfl (C9 rfl rfl rfl) (fun hc => C4 rfl (A0 rfl)) ?_
    refine D8 rfl (C9 rfl rfl rfl) (fun hc => I4 rfl (A8 rfl hc)) ?_
    refine C2 rfl rfl (N4 rfl (A0 rfl) (E3 rfl)) ?_
    refine C2 rfl rfl (C4 rfl (A0 rfl)) ?_
    refine D8 rfl (C9 rfl rfl rfl) (fun hc => C4 rfl (A0 rfl)) ?_
    refine D8 rfl (C9 rfl rfl rfl) (fun hc => O5 rfl (A8 rfl hc) B5) ?_
    refine D8 rfl (C9 rfl rfl rfl) (fun hc => C4 rfl (A8 rfl hc)) ?_
    refine D8 rfl (E0 rfl rfl rfl) (fun hc => B6 0 rfl K4 rfl B9 (A0 rfl) rfl) ?_
    refine D8 rfl (E0 rfl rfl rfl) (fun hc => B4 0 rfl (A8 rfl hc) rfl C7 rfl) ?_
    refine D8 rfl (E0 rfl rfl rfl) (fun hc => B6 3 rfl D4 rfl P2 (A0 rfl) rfl) ?_
    refine D8 rfl (E0 rfl rfl rfl) (fun hc => B4 1 rfl (A8 rfl hc) rfl T0 rfl) ?_
    refine D8 rfl (E0 rfl rfl rfl) (fun hc => C4 rfl (A0 rfl)) ?_
    refine D8 rfl (E0 rfl rfl rfl) (fun hc => N1 rfl (A8 rfl hc) B5 (by first | omega | ((try simp only [A6, B0, B7, C1, B3, szR] at *); omega) | (have hc2 := hc; simp only [Bool.and_eq_true, Bool.or_eq_true, Bool.or_eq_false_iff, Bool.and_eq_false_iff, Bool.not_eq_true', Bool.not_eq_false', decide_eq_true_eq, decide_eq_false_iff_not, beq_iff_eq, bne_iff_ne, A6, B0] at hc2; omega))) ?_
    refine D8 rfl (E0 rfl rfl rfl) (fun hc => J4 rfl H8 K6 (A8 rfl hc) (A8 rfl hc) hy (by first | omega | ((try simp only [A6, B0, B7, C1, B3, szR] at *); omega) | (have hc2 := hc; simp only [Bool.and_eq_true, Bool.or_eq_true, Bool.or_eq_false_iff, Bool.and_eq_false_iff, Bool.not_eq_true', Bool.not_eq_false', decide_eq_true_eq, decide_eq_false_iff_not, beq_iff_eq, bne_iff_ne, A6, B0] at hc2; omega))) ?_
    refine D8 rfl (E0 rfl rfl rfl) (fun hc => U2 rfl K4 rfl B9 (A8 rfl hc) rfl) ?_
    refine D8 rfl (E0 rfl rfl rfl) (fun hc => L6 rfl (A8 rfl hc) C7 rfl) ?_
    refine D8 rfl (E0 rfl rfl rfl) (fun hc => S0 rfl (A8 rfl hc) (A8 rfl hc)) ?_
    refine D8 rfl (C9 rfl rfl rfl) (fun hc => G1 rfl (A8 rfl hc) (Q1 rfl hc)) ?_
    refine C2 rfl rfl (N4 rfl (A0 rfl) (E3 rfl)) ?_
    refine Q9 ?_
    refine C8 (A0 rfl) ?_ ?_
    ·intro h97
     have hfin : goodState s = false := by (rw [hgs2]; exact W7 hlt (by rw [w4 hx hy, h97]; rfl))
     refine A3 (A2 ?_)
     refine A1 rfl rfl rfl (B8 rfl F0) ?_
     refine A5 ?_
     refine C6 ?_
     exact H1 rfl (C3 rfl (by exact congrArg AV.bool hfin.symm))
    ·intro h97
     refine D1 (A3 (A2 ?_))
     refine A1 rfl rfl rfl (E4 1 rfl (A0 rfl) rfl F1 D3 rfl) ?_
     refine A1 rfl rfl rfl (B6 0 rfl K4 rfl B9 (A0 rfl) rfl) ?_
     refine A1 rfl rfl rfl (B4 0 rfl (A0 rfl) rfl C7 rfl) ?_
     refine A1 rfl rfl rfl (D6 rfl Tryz.call96 rfl (AX2 _ _ (by first | assumption | omega)) (A7 (A0 rfl) (A7 (A0 rfl) C0))) ?_
     refine A4 rfl rfl rfl rfl rfl ?_
     refine A1 rfl rfl rfl (D0 rfl (A0 rfl) rfl) ?_
     refine A1 rfl rfl rfl (D0 rfl (A0 rfl) rfl) ?_
     refine B2 rfl rfl rfl rfl rfl ?_
     refine B2 rfl rfl rfl rfl rfl ?_
     refine A5 (A3 (A2 ?_))
     refine A4 rfl rfl rfl rfl rfl ?_
     refine A5 ?_
     refine C8 (A0 rfl) ?_ ?_
     ·intro h105
      have hfin : goodState s = false := by (rw [hgs2]; exact W7 hlt (by rw [w4 hx hy, ← Ag5 hsrt, h105]; simp))
      refine A3 (A2 ?_)
      refine A1 rfl rfl rfl (B8 rfl F0) ?_
      refine A5 ?_
      refine C6 ?_
      exact H1 rfl (C3 rfl (by exact congrArg AV.bool hfin.symm))
     ·intro h105
      refine D1 (A2 ?_)
      refine A1 rfl rfl rfl (G5 rfl (A0 rfl) B5 (by first | omega | (simp only [A6, B0, B7, C1, B3, szR] at *; omega))) ?_
      refine A4 rfl rfl rfl rfl rfl ?_
      refine A5 ?_
      refine L2 q (q + 1) ?_ ?_ (T3 1 ⟨rfl, rfl, rfl, rfl, trivial⟩)
      ·exact ⟨by omega, fun j hj => if hji : j < q then hinv.2 j hji else (by have e : j = q := (by omega); subst e; rw [w4 hx hy, h97, ← Ag5 hsrt, h105]; rfl)⟩
      ·omega
   ·intro h51
    have k51 := of_decide_eq_false h51; try simp only [A6] at k51
    have hge : s.Told.length ≤ q := by omega
    have hfin : goodState s = true := by (rw [hgs2]; exact j5.2 fun j hj => hinv.2 j (by omega))
    refine H4 ?_
    refine A3 (A2 ?_)
    refine A1 rfl rfl rfl (B8 rfl F0) ?_
    refine A5 ?_
    refine C6 ?_
    exact H1 rfl (C3 rfl (by exact congrArg AV.bool hfin.symm))
end Go.Proofs.YtnlhbdkcgaeimaaGreat

set_option linter.unusedVariables false
set_option linter.unusedSimpArgs false
set_option maxRecDepth 100000
namespace Go.Proofs.YtnlhbdkcgaeimaaGreat
open Go Go.AV Go.M
attribute [local irreducible] OpW OpA OpS AWP FSpec ESpec GSpec OpE RetOk RetOkG RvDen Le Ev GuardIs
def TRec.ow (c : TRec) (x : Value × Value) : List Own := [.arr x.1 9 1 (c.Reads.map (fun x => [AV.str x])), .arr x.2 77 3 (c.Writes.map TWrite.cs)]
theorem TRec.lc (c : TRec) (x : Value × Value) : LendC (TRec.ow c x) (TRec.ocs c x) c.cs := (H2 L8 (H2 L8 (H2 L8 (H2 L8 (H2 (N2 (G6 (i := 0) rfl) I9) (H2 (N2 (G6 (i := 1) rfl) I9) (H2 L8 T9)))))))
def TPlaces.ow (c : TPlaces) (x : Value × Value) : List Own := [.arr x.1 9 1 (c.Cuts.map (fun x => [AV.str x])), .arr x.2 3 1 (c.Groups.map (fun x => [AV.int x]))]
theorem TPlaces.lc (c : TPlaces) (x : Value × Value) : LendC (TPlaces.ow c x) (TPlaces.ocs c x) c.cs := (H2 L8 (H2 (N2 (G6 (i := 0) rfl) I9) (H2 (N2 (G6 (i := 1) rfl) I9) T9)))
def TMove.ow (c : TMove) (x : Value × Value) : List Own := [.arr x.1 77 3 (c.From.map TWrite.cs), .arr x.2 77 3 (c.To.map TWrite.cs)]
theorem TMove.lc (c : TMove) (x : Value × Value) : LendC (TMove.ow c x) (TMove.ocs c x) c.cs := (H2 L8 (H2 L8 (H2 L8 (H2 (N2 (G6 (i := 0) rfl) I9) (H2 (N2 (G6 (i := 1) rfl) I9) (H2 L8 (H2 L8 T9)))))))
end Go.Proofs.YtnlhbdkcgaeimaaGreat
