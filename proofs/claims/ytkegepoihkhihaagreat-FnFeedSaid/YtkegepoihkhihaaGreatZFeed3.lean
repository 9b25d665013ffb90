/- Texts of the claim, part 3. -/
import Derived.Laws.BytesArg
import Derived.Test.YtkegepoihkhihaaGreatRows
import Derived.Sort.OwnSortedInts
import Derived.Sort.EncStr
import Derived.Shelf.GgSortFunc.RowK
import Derived.Shelf.Sort.Plain
import Derived.Shelf.Slices.In.SortNone
import Derived.Test.YtkegepoihkhihaaGreatProg
import Derived.Test.YtkegepoihkhihaaGreatZFeed2

set_option linter.unusedVariables false
set_option linter.unusedSimpArgs false
set_option maxRecDepth 100000
namespace Go.Proofs.YtkegepoihkhihaaGreat
open Go Go.AV Go.M
attribute [local irreducible] OpW OpA OpS AWP FSpec ESpec RetOk RvDen Le Ev GuardIs
theorem X9 (t : Int) : FSpec Tryz.prog 111 [AV.int t] (AV.bool (isTime t)) := by
 refine D8 Tryz.func111 rfl Tryz.ntmps111 rfl ?_
 refine A3 (A2 ?_)
 refine A1 rfl (B3 rfl F0) ?_
 refine A4 (A3 (A2 ?_))
 refine A5 rfl ?_
 refine A1 rfl (D7 rfl Tryz.call82 rfl (U8 _ _ _) (A8 (A0 rfl) (A8 B5 (A8 B5 C6)))) ?_
 refine B4 rfl ?_
 refine A4 ?_
 refine C2 ?_
 exact G1 rfl (B8 rfl (by first | rfl | (refine congrArg AV.bool ?_; simp_all; done)))
theorem Al5 (t : Int) : FSpec Tryz.prog 51 [AV.int t] (AV.bool (isGroup t)) := by
 refine D8 Tryz.func51 rfl Tryz.ntmps51 rfl ?_
 refine A3 (A2 ?_)
 refine A1 rfl (B3 rfl F0) ?_
 refine A4 (A3 (A2 ?_))
 refine A5 rfl ?_
 refine A1 rfl (D7 rfl Tryz.call82 rfl (U8 _ _ _) (A8 (A0 rfl) (A8 B5 (A8 B5 C6)))) ?_
 refine B4 rfl ?_
 refine A4 ?_
 refine C2 ?_
 exact G1 rfl (B8 rfl (by first | rfl | (refine congrArg AV.bool ?_; simp_all; done)))
theorem s9 (s : Str) (g : Bool) (hs : s.length ≤ 4611686018427387904) : FSpec Tryz.prog 113 [AV.str s, AV.bool g] (AV.bool (isStored s g)) := by
 refine D8 Tryz.func113 rfl Tryz.ntmps113 rfl ?_
 refine A3 (A2 ?_)
 refine A1 rfl (B3 rfl F0) ?_
 refine A4 (A3 (A2 ?_))
 refine A5 rfl ?_
 refine A1 rfl (D7 rfl Tryz.call167 rfl (Al4 _ (by omega)) (A8 (A0 rfl) C6)) ?_
 refine A5 rfl ?_
 refine C4 rfl (fun hc => B7 rfl (A0 rfl)) ?_
 refine C4 rfl (fun hc => B7 rfl (A6 rfl hc)) ?_
 refine H6 rfl rfl (D6 rfl rfl rfl) (fun hc => B7 rfl (A0 rfl)) ?_
 refine H6 rfl rfl (D6 rfl rfl rfl) (fun hc => Aj1 rfl (A6 rfl hc) (e8 (l := []) rfl)) ?_
 refine C4 rfl (fun hc => G8 rfl (A6 rfl hc) (O5 rfl hc)) ?_
 refine C4 rfl (fun hc => K3 rfl (A6 rfl hc)) ?_
 refine A1 rfl (G8 rfl (A0 rfl) (F1 rfl)) ?_
 refine B4 rfl ?_
 refine A4 ?_
 refine C2 ?_
 exact G1 rfl (B8 rfl (by first | rfl | (refine congrArg AV.bool ?_; simp_all; done)))
theorem Ag4 (c : TFeedItem) (hs : c.size ≤ 1048576) : FSpec Tryz.prog 72 [AV.agg c.cs] (AV.bool (goodItem c)) := by
 have hs' := hs; unfold TFeedItem.size at hs'
 refine D8 Tryz.func72 rfl Tryz.ntmps72 rfl ?_
 refine A3 (A2 ?_)
 refine L6 rfl rfl rfl rfl (A0 rfl) ?_
 intro b1
 refine A1 rfl (B3 rfl F0) ?_
 refine A4 (A3 (A2 ?_))
 refine A1 rfl (B2 0 rfl H1 rfl B9 (A0 rfl) rfl) ?_
 refine A1 rfl (B0 0 rfl (A0 rfl) rfl C1 rfl) ?_
 refine A1 rfl (D7 rfl Tryz.call111 rfl (X9 _) (A8 (A0 rfl) C6)) ?_
 refine A5 rfl ?_
 refine C4 rfl (fun hc => B2 1 rfl H1 rfl B9 (A0 rfl) rfl) ?_
 refine C4 rfl (fun hc => B0 0 rfl (A6 rfl hc) rfl C1 rfl) ?_
 refine C4 rfl (fun hc => D7 rfl Tryz.call51 rfl (Al5 _) (A8 (A6 rfl hc) C6)) ?_
 refine A1 rfl (G8 rfl (A0 rfl) (F1 rfl)) ?_
 refine A5 rfl ?_
 refine C4 rfl (fun hc => B2 2 rfl H1 rfl E3 (A0 rfl) rfl) ?_
 refine C4 rfl (fun hc => B0 0 rfl (A6 rfl hc) rfl F5 rfl) ?_
 refine C4 rfl (fun hc => D7 rfl Tryz.call112 rfl (AL1 _ (by omega)) (A8 (A6 rfl hc) C6)) ?_
 refine A1 rfl (G8 rfl (A0 rfl) (F1 rfl)) ?_
 refine A5 rfl ?_
 refine C4 rfl (fun hc => B2 3 rfl H1 rfl E3 (A0 rfl) rfl) ?_
 refine C4 rfl (fun hc => B0 0 rfl (A6 rfl hc) rfl F5 rfl) ?_
 refine C4 rfl (fun hc => B2 4 rfl H1 rfl K2 (A0 rfl) rfl) ?_
 refine C4 rfl (fun hc => B0 0 rfl (A6 rfl hc) rfl K7 rfl) ?_
 refine C4 rfl (fun hc => D7 rfl Tryz.call113 rfl (s9 _ _ (by omega)) (A8 (A6 rfl hc) (A8 (A6 rfl hc) C6))) ?_
 refine A1 rfl (G8 rfl (A0 rfl) (F1 rfl)) ?_
 refine B4 rfl ?_
 refine A4 ?_
 refine C2 ?_
 exact G1 rfl (B8 rfl (by first | rfl | (refine congrArg AV.bool ?_; simp_all; done)))
theorem Ax8 (s : Str) (hs : s.length ≤ 4611686018427387904) : FSpec Tryz.prog 207 [AV.str s] (AV.bool (l3Val s)) := by
 refine D8 Tryz.func207 rfl Tryz.ntmps207 rfl ?_
 refine A3 (A2 ?_)
 refine A1 rfl (B3 rfl F0) ?_
 refine A4 (A3 (A2 ?_))
 refine A5 rfl ?_
 refine A1 rfl (x4 rfl K9 (A0 rfl)) ?_
 refine A1 rfl (S1 rfl (A0 rfl) B5) ?_
 refine A5 rfl ?_
 refine C4 rfl (fun hc => B7 rfl (A0 rfl)) ?_
 refine C4 rfl (fun hc => D7 rfl Tryz.call223 rfl (AL0 _ _ (by omega) (by decide)) (A8 (A6 rfl hc) (A8 (e8 (l := [46, 45, 44, 95]) rfl) C6))) ?_
 refine A1 rfl (G8 rfl (A0 rfl) (F1 rfl)) ?_
 refine B4 rfl ?_
 refine A4 ?_
 refine C2 ?_
 exact G1 rfl (B8 rfl (by first | rfl | (refine congrArg AV.bool ?_; simp_all; done)))
theorem y8 (k s : Str) (g : Bool) (hk : k.length ≤ 4611686018427387904) (hs : s.length ≤ 4611686018427387904) : FSpec Tryz.prog 165 [AV.str k, AV.str s, AV.bool g] (AV.bool (l3Write k s g)) := by
 refine D8 Tryz.func165 rfl Tryz.ntmps165 rfl ?_
 refine A3 (A2 ?_)
 refine A1 rfl (B3 rfl F0) ?_
 refine A4 (A3 (A2 ?_))
 refine A5 rfl ?_
 refine A1 rfl (D7 rfl Tryz.call198 rfl (AG9 _ (by omega)) (A8 (A0 rfl) C6)) ?_
 refine A5 rfl ?_
 refine C4 rfl (fun hc => B7 rfl (A0 rfl)) ?_
 refine C4 rfl (fun hc => D7 rfl Tryz.call207 rfl (Ax8 _ (by omega)) (A8 (A6 rfl hc) C6)) ?_
 refine A1 rfl (G8 rfl (A0 rfl) (F1 rfl)) ?_
 refine A5 rfl ?_
 refine C4 rfl (fun hc => B7 rfl (A0 rfl)) ?_
 refine C4 rfl (fun hc => K3 rfl (A6 rfl hc)) ?_
 refine C4 rfl (fun hc => B7 rfl (A6 rfl hc)) ?_
 refine H6 rfl rfl (N1 rfl rfl rfl) (fun hc => B7 rfl (A0 rfl)) ?_
 refine H6 rfl rfl (N1 rfl rfl rfl) (fun hc => p8 rfl (A6 rfl hc) (e8 (l := []) rfl)) ?_
 refine C4 rfl (fun hc => P9 rfl (A6 rfl hc) (O5 rfl hc)) ?_
 refine A1 rfl (G8 rfl (A0 rfl) (F1 rfl)) ?_
 refine B4 rfl ?_
 refine A4 ?_
 refine C2 ?_
 exact G1 rfl (B8 rfl (by first | rfl | (refine congrArg AV.bool ?_; simp_all; done)))
theorem Al6 (c : TFeedItem) (hs : c.size ≤ 1048576) : FSpec Tryz.prog 108 [AV.agg c.cs] (AV.bool (l23Good c)) := by
 have hs' := hs; unfold TFeedItem.size at hs'
 refine D8 Tryz.func108 rfl Tryz.ntmps108 rfl ?_
 refine A3 (A2 ?_)
 refine L6 rfl rfl rfl rfl (A0 rfl) ?_
 intro b1
 refine A1 rfl (B3 rfl F0) ?_
 refine A4 (A3 (A2 ?_))
 refine A1 rfl (B2 0 rfl H1 rfl B9 (A0 rfl) rfl) ?_
 refine A1 rfl (B0 0 rfl (A0 rfl) rfl C1 rfl) ?_
 refine A1 rfl (D7 rfl Tryz.call39 rfl (R9 _ _ _) (A8 (A0 rfl) (A8 B5 (A8 B5 C6)))) ?_
 refine A5 rfl ?_
 refine C4 rfl (fun hc => B2 1 rfl H1 rfl B9 (A0 rfl) rfl) ?_
 refine C4 rfl (fun hc => B0 0 rfl (A6 rfl hc) rfl C1 rfl) ?_
 refine C4 rfl (fun hc => D7 rfl Tryz.call39 rfl (R9 _ _ _) (A8 (A6 rfl hc) (A8 B5 (A8 B5 C6)))) ?_
 refine A1 rfl (G8 rfl (A0 rfl) (F1 rfl)) ?_
 refine A5 rfl ?_
 refine C4 rfl (fun hc => B2 2 rfl H1 rfl E3 (A0 rfl) rfl) ?_
 refine C4 rfl (fun hc => B0 0 rfl (A6 rfl hc) rfl F5 rfl) ?_
 refine C4 rfl (fun hc => B2 3 rfl H1 rfl E3 (A0 rfl) rfl) ?_
 refine C4 rfl (fun hc => B0 0 rfl (A6 rfl hc) rfl F5 rfl) ?_
 refine C4 rfl (fun hc => B2 4 rfl H1 rfl K2 (A0 rfl) rfl) ?_
 refine C4 rfl (fun hc => B0 0 rfl (A6 rfl hc) rfl K7 rfl) ?_
 refine C4 rfl (fun hc => D7 rfl Tryz.call165 rfl (y8 _ _ _ (by omega) (by omega)) (A8 (A6 rfl hc) (A8 (A6 rfl hc) (A8 (A6 rfl hc) C6)))) ?_
 refine A1 rfl (G8 rfl (A0 rfl) (F1 rfl)) ?_
 refine B4 rfl ?_
 refine A4 ?_
 refine C2 ?_
 exact G1 rfl (B8 rfl (by first | rfl | (refine congrArg AV.bool ?_; simp_all; done)))
theorem AI4 (t : Int) : FSpec Tryz.prog 159 [AV.int t] (AV.bool false) := by
 refine D8 Tryz.func159 rfl Tryz.ntmps159 rfl ?_
 refine A3 (A2 ?_)
 refine A1 rfl (B3 rfl F0) ?_
 refine A4 (A3 (A2 ?_))
 refine A5 rfl ?_
 refine A5 rfl ?_
 refine A1 rfl (t8 rfl (A0 rfl) (A0 rfl)) ?_
 refine B4 rfl ?_
 refine A4 ?_
 refine C2 ?_
 exact G1 rfl (B8 rfl (by exact congrArg AV.bool (by simp)))
theorem AI5 (t : Str) : FSpec Tryz.prog 160 [AV.str t] (AV.bool false) := by
 refine D8 Tryz.func160 rfl Tryz.ntmps160 rfl ?_
 refine A3 (A2 ?_)
 refine A1 rfl (B3 rfl F0) ?_
 refine A4 (A3 (A2 ?_))
 refine A5 rfl ?_
 refine A5 rfl ?_
 refine A1 rfl (Aj1 rfl (A0 rfl) (A0 rfl)) ?_
 refine B4 rfl ?_
 refine A4 ?_
 refine C2 ?_
 exact G1 rfl (B8 rfl (by exact congrArg AV.bool (by simp)))
theorem AC6 (x y : Int) : FSpec Tryz.prog 104 [AV.int x, AV.int y] (AV.int (cmpInt x y)) := by
 refine D8 Tryz.func104 rfl Tryz.ntmps104 rfl ?_
 refine A3 (A2 ?_)
 refine A1 rfl (B3 rfl B5) ?_
 refine A4 (A3 (A2 ?_))
 refine A5 rfl ?_
 refine A1 rfl (D7 rfl Tryz.call159 rfl (AI4 _) (A8 (A0 rfl) C6)) ?_
 refine B4 rfl ?_
 refine A4 (A3 (A2 ?_))
 refine A5 rfl ?_
 refine A1 rfl (D7 rfl Tryz.call159 rfl (AI4 _) (A8 (A0 rfl) C6)) ?_
 refine B4 rfl ?_
 refine A4 (A3 (A3 (A2 ?_)))
 refine A5 rfl ?_
 refine A4 ?_
 refine C3 (A0 rfl) ?_ ?_
 ·intro h11
  cases h11
 intro h11
 refine C8 (A3 (A3 (A2 ?_)))
 refine A5 rfl ?_
 refine A4 ?_
 refine C3 (A0 rfl) ?_ ?_
 ·intro h13
  cases h13
 intro h13
 refine C8 (A3 (A3 (A2 ?_)))
 refine A5 rfl ?_
 refine A5 rfl ?_
 refine A1 rfl (I4 rfl (A0 rfl) (A0 rfl)) ?_
 refine A4 ?_
 refine C3 (A0 rfl) ?_ ?_
 ·intro h16
  have k16 := of_decide_eq_true h16; try simp only [A9] at k16
  refine A3 (A2 ?_)
  refine A1 rfl (B3 rfl B5) ?_
  refine A4 ?_
  refine C2 ?_
  exact G1 rfl (B8 rfl (by exact congrArg AV.int (by unfold cmpInt; (repeat' split) <;> omega)))
 intro h16
 have k16 := of_decide_eq_false h16; try simp only [A9] at k16
 refine C8 (A3 (A3 (A2 ?_)))
 refine A5 rfl ?_
 refine A5 rfl ?_
 refine A1 rfl (N6 rfl (A0 rfl) (A0 rfl)) ?_
 refine A4 ?_
 refine C3 (A0 rfl) ?_ ?_
 ·intro h19
  have k19 := of_decide_eq_true h19; try simp only [A9] at k19
  refine A3 (A2 ?_)
  refine A1 rfl (B3 rfl B5) ?_
  refine A4 ?_
  refine C2 ?_
  exact G1 rfl (B8 rfl (by exact congrArg AV.int (by unfold cmpInt; (repeat' split) <;> omega)))
 intro h19
 have k19 := of_decide_eq_false h19; try simp only [A9] at k19
 refine C8 (A3 (A2 ?_))
 refine A1 rfl (B3 rfl B5) ?_
 refine A4 ?_
 refine C2 ?_
 exact G1 rfl (B8 rfl (by exact congrArg AV.int (by unfold cmpInt; (repeat' split) <;> omega)))
theorem AC7 (x y : Str) : FSpec Tryz.prog 105 [AV.str x, AV.str y] (AV.int (cmpStr x y)) := by
 refine D8 Tryz.func105 rfl Tryz.ntmps105 rfl ?_
 refine A3 (A2 ?_)
 refine A1 rfl (B3 rfl B5) ?_
 refine A4 (A3 (A2 ?_))
 refine A5 rfl ?_
 refine A1 rfl (D7 rfl Tryz.call160 rfl (AI5 _) (A8 (A0 rfl) C6)) ?_
 refine B4 rfl ?_
 refine A4 (A3 (A2 ?_))
 refine A5 rfl ?_
 refine A1 rfl (D7 rfl Tryz.call160 rfl (AI5 _) (A8 (A0 rfl) C6)) ?_
 refine B4 rfl ?_
 refine A4 (A3 (A3 (A2 ?_)))
 refine A5 rfl ?_
 refine A4 ?_
 refine C3 (A0 rfl) ?_ ?_
 ·intro h11
  cases h11
 intro h11
 refine C8 (A3 (A3 (A2 ?_)))
 refine A5 rfl ?_
 refine A4 ?_
 refine C3 (A0 rfl) ?_ ?_
 ·intro h13
  cases h13
 intro h13
 refine C8 (A3 (A3 (A2 ?_)))
 refine A5 rfl ?_
 refine A5 rfl ?_
 refine A1 rfl (w_slss rfl (A0 rfl) (A0 rfl)) ?_
 refine A4 ?_
 refine C3 (A0 rfl) ?_ ?_
 ·intro h16
  refine A3 (A2 ?_)
  refine A1 rfl (B3 rfl B5) ?_
  refine A4 ?_
  refine C2 ?_
  exact G1 rfl (B8 rfl (by exact congrArg AV.int (by have := bytesLess_tri y x; unfold cmpStr; simp_all)))
 intro h16
 refine C8 (A3 (A3 (A2 ?_)))
 refine A5 rfl ?_
 refine A5 rfl ?_
 refine A1 rfl (Aj2 rfl (A0 rfl) (A0 rfl)) ?_
 refine A4 ?_
 refine C3 (A0 rfl) ?_ ?_
 ·intro h19
  refine A3 (A2 ?_)
  refine A1 rfl (B3 rfl B5) ?_
  refine A4 ?_
  refine C2 ?_
  exact G1 rfl (B8 rfl (by exact congrArg AV.int (by have := bytesLess_tri y x; unfold cmpStr; simp_all)))
 intro h19
 refine C8 (A3 (A2 ?_))
 refine A1 rfl (B3 rfl B5) ?_
 refine A4 ?_
 refine C2 ?_
 exact G1 rfl (B8 rfl (by exact congrArg AV.int (by have := bytesLess_tri y x; unfold cmpStr; simp_all)))
theorem Ax9 (l : List Int) : FSpec Tryz.prog 103 [ints l] (AV.int (orInt l)) := by
 refine D8 Tryz.func103 rfl Tryz.ntmps103 rfl ?_
 refine Q6 (t := 0) rfl fun hl => ?_
 try simp only [A9] at hl
 refine A3 (A2 ?_)
 refine A1 rfl (B3 rfl B5) ?_
 refine A4 (A3 (A2 ?_))
 refine A1 rfl (B3 rfl B5) ?_
 refine A4 (A3 (A3 (A2 ?_)))
 refine A5 rfl ?_
 refine A1 rfl (G5 rfl Tryz.underlying117 (A0 rfl)) ?_
 refine A1 rfl (B7 rfl B5) ?_
 refine A4 (D0 ?_)
 refine H4 [(3, _), (6, _), (7, _)] _ (fun (i : Nat) => i ≤ l.length ∧ orInt l = orInt (l.drop i)) (fun (i : Nat) => []) (fun (i : Nat) => [(8, AV.int i)]) (fun (i : Nat) => l.length - i) (0) ?_ (H8 ⟨rfl, rfl, rfl, rfl, trivial⟩) ?_
 ·exact ⟨Nat.zero_le _, rfl⟩
 intro i hinv
 refine A3 (A2 ?_)
 refine A1 rfl (I4 rfl (A0 rfl) (A0 rfl)) ?_
 refine A4 (A3 ?_)
 refine C3 (A0 rfl) ?_ ?_
 ·intro h9
  have k9 := of_decide_eq_true h9; try simp only [A9] at k9
  have hlt : i < l.length := by omega
  obtain ⟨x, hx⟩ := get_some hlt
  refine C8 (A3 (D0 (A3 (A2 ?_))))
  refine A1 rfl (d6 rfl Tryz.underlying117 B9 (A0 rfl) (A0 rfl) (by omega) (by simp only [Int.toNat_natCast, List.getElem?_map, hx, Option.map_some]; try rfl)) ?_
  refine A1 rfl (L3 rfl (A0 rfl) C1 rfl) ?_
  refine B4 rfl ?_
  refine A4 (A3 (A2 ?_))
  refine A5 rfl ?_
  refine A5 rfl ?_
  refine A1 rfl (t8 rfl (A0 rfl) (A0 rfl)) ?_
  refine A4 ?_
  refine C3 (A0 rfl) ?_ ?_
  ·intro h14
   have k14 := p7 h14; try simp only [A9] at k14
   refine A3 (A2 ?_)
   refine A5 rfl ?_
   refine B4 rfl ?_
   refine A4 ?_
   refine C2 ?_
   exact G1 rfl (B8 rfl (by first | exact congrArg AV.int (by rw [hinv.2, drop_some hx, orInt]; simp [k14]) | exact congrArg AV.int (by rw [hinv.2, List.drop_eq_nil_of_le hge]; rfl)))
  intro h14
  have k14 := X1 h14; try simp only [A9] at k14
  refine C8 (A2 ?_)
  refine A1 rfl (F6 rfl (A0 rfl) B5 (by first | omega | (simp only [D1, A7, szR] at *; omega))) ?_
  refine A5 rfl ?_
  refine A4 ?_
  refine J3 i (i + 1) ?_ ?_ (H8 ⟨rfl, rfl, rfl, rfl, trivial⟩)
  ·exact ⟨by omega, by rw [hinv.2, drop_some hx, orInt]; simp [k14]⟩
  omega
 intro h9
 have k9 := of_decide_eq_false h9; try simp only [A9] at k9
 have hge : l.length ≤ i := by omega
 refine G0 ?_
 refine A3 (A2 ?_)
 refine A5 rfl ?_
 refine B4 rfl ?_
 refine A4 ?_
 refine C2 ?_
 exact G1 rfl (B8 rfl (by first | exact congrArg AV.int (by rw [hinv.2, drop_some hx, orInt]; simp [k14]) | exact congrArg AV.int (by rw [hinv.2, List.drop_eq_nil_of_le hge]; rfl)))
theorem AP4 (a b : TFeedItem) : FSpec Tryz.prog 64 [AV.agg a.cs, AV.agg b.cs] (AV.int (compareItems a b)) := by
 refine D8 Tryz.func64 rfl Tryz.ntmps64 rfl ?_
 refine A3 (A2 ?_)
 refine L6 rfl rfl rfl rfl (A0 rfl) ?_
 intro b2
 refine L6 rfl rfl rfl rfl (A0 rfl) ?_
 intro b3
 refine A1 rfl (B3 rfl B5) ?_
 refine A4 (A3 ?_)
 refine I3 (by kernel_rfl) (by kernel_rfl) rfl ?_
 refine B1 rfl rfl (B2 0 rfl H1 rfl B9 (A0 rfl) rfl) ?_
 refine B1 rfl rfl (B0 1 rfl (A0 rfl) rfl C1 rfl) ?_
 refine B1 rfl rfl (B2 0 rfl H1 rfl B9 (A0 rfl) rfl) ?_
 refine B1 rfl rfl (B0 0 rfl (A0 rfl) rfl C1 rfl) ?_
 refine B1 rfl rfl (D7 rfl Tryz.call104 rfl (AC6 _ _) (A8 (A0 rfl) (A8 (A0 rfl) C6))) ?_
 refine B1 rfl rfl (B2 1 rfl H1 rfl B9 (A0 rfl) rfl) ?_
 refine B1 rfl rfl (B0 1 rfl (A0 rfl) rfl C1 rfl) ?_
 refine B1 rfl rfl (B2 1 rfl H1 rfl B9 (A0 rfl) rfl) ?_
 refine B1 rfl rfl (B0 0 rfl (A0 rfl) rfl C1 rfl) ?_
 refine B1 rfl rfl (D7 rfl Tryz.call104 rfl (AC6 _ _) (A8 (A0 rfl) (A8 (A0 rfl) C6))) ?_
 refine B1 rfl rfl (B2 2 rfl H1 rfl E3 (A0 rfl) rfl) ?_
 refine B1 rfl rfl (B0 1 rfl (A0 rfl) rfl F5 rfl) ?_
 refine B1 rfl rfl (B2 2 rfl H1 rfl E3 (A0 rfl) rfl) ?_
 refine B1 rfl rfl (B0 0 rfl (A0 rfl) rfl F5 rfl) ?_
 refine B1 rfl rfl (D7 rfl Tryz.call105 rfl (AC7 _ _) (A8 (A0 rfl) (A8 (A0 rfl) C6))) ?_
 refine B1 rfl rfl (M0 rfl Tryz.underlying117 B9 Tryz.zeroValue3 rfl rfl rfl rfl (F4 (A0 rfl) (P2 _ _) (F4 (A0 rfl) (P2 _ _) (F4 (A0 rfl) (P2 _ _) J5))) rfl rfl) ?_
 refine B1 rfl rfl (D7 rfl Tryz.call103 rfl (Ax9 [_, _, _]) (A8 (A0 rfl) C6)) ?_
 refine B1 rfl rfl (B3 rfl (A0 rfl)) ?_
 refine P0 ?_
 refine C2 ?_
 exact G1 rfl (B8 rfl (by first | rfl | (refine congrArg AV.bool ?_; simp_all; done)))
theorem t1 (a b : TFeedItem) : FSpec Tryz.prog 109 [AV.agg a.cs, AV.agg b.cs] (AV.bool (l23Ahead a b)) := by
 refine D8 Tryz.func109 rfl Tryz.ntmps109 rfl ?_
 refine A3 (A2 ?_)
 refine L6 rfl rfl rfl rfl (A0 rfl) ?_
 intro b2
 refine L6 rfl rfl rfl rfl (A0 rfl) ?_
 intro b3
 refine A1 rfl (B3 rfl F0) ?_
 refine A4 (A3 (A3 (A2 ?_)))
 refine A1 rfl (B2 0 rfl H1 rfl B9 (A0 rfl) rfl) ?_
 refine A1 rfl (B0 1 rfl (A0 rfl) rfl C1 rfl) ?_
 refine A1 rfl (B2 0 rfl H1 rfl B9 (A0 rfl) rfl) ?_
 refine A1 rfl (B0 0 rfl (A0 rfl) rfl C1 rfl) ?_
 refine A1 rfl (t8 rfl (A0 rfl) (A0 rfl)) ?_
 refine A4 ?_
 refine C3 (A0 rfl) ?_ ?_
 ·intro h9
  have k9 := p7 h9; try simp only [A9] at k9
  refine A3 (A2 ?_)
  refine A1 rfl (B2 0 rfl H1 rfl B9 (A0 rfl) rfl) ?_
  refine A1 rfl (B0 1 rfl (A0 rfl) rfl C1 rfl) ?_
  refine A1 rfl (B2 0 rfl H1 rfl B9 (A0 rfl) rfl) ?_
  refine A1 rfl (B0 0 rfl (A0 rfl) rfl C1 rfl) ?_
  refine A1 rfl (I4 rfl (A0 rfl) (A0 rfl)) ?_
  refine B4 rfl ?_
  refine A4 ?_
  refine C2 ?_
  exact G1 rfl (B8 rfl (by exact congrArg AV.bool (by unfold l23Ahead; simp_all)))
 intro h9
 have k9 := X1 h9; try simp only [A9] at k9
 refine C8 (A3 (A3 (A2 ?_)))
 refine A1 rfl (B2 1 rfl H1 rfl B9 (A0 rfl) rfl) ?_
 refine A1 rfl (B0 1 rfl (A0 rfl) rfl C1 rfl) ?_
 refine A1 rfl (B2 1 rfl H1 rfl B9 (A0 rfl) rfl) ?_
 refine A1 rfl (B0 0 rfl (A0 rfl) rfl C1 rfl) ?_
 refine A1 rfl (t8 rfl (A0 rfl) (A0 rfl)) ?_
 refine A4 ?_
 refine C3 (A0 rfl) ?_ ?_
 ·intro h19
  have k19 := p7 h19; try simp only [A9] at k19
  refine A3 (A2 ?_)
  refine A1 rfl (B2 1 rfl H1 rfl B9 (A0 rfl) rfl) ?_
  refine A1 rfl (B0 1 rfl (A0 rfl) rfl C1 rfl) ?_
  refine A1 rfl (B2 1 rfl H1 rfl B9 (A0 rfl) rfl) ?_
  refine A1 rfl (B0 0 rfl (A0 rfl) rfl C1 rfl) ?_
  refine A1 rfl (I4 rfl (A0 rfl) (A0 rfl)) ?_
  refine B4 rfl ?_
  refine A4 ?_
  refine C2 ?_
  exact G1 rfl (B8 rfl (by exact congrArg AV.bool (by unfold l23Ahead; simp_all)))
 intro h19
 have k19 := X1 h19; try simp only [A9] at k19
 refine C8 (A3 (A2 ?_))
 refine A1 rfl (B2 2 rfl H1 rfl E3 (A0 rfl) rfl) ?_
 refine A1 rfl (B0 1 rfl (A0 rfl) rfl F5 rfl) ?_
 refine A1 rfl (B2 2 rfl H1 rfl E3 (A0 rfl) rfl) ?_
 refine A1 rfl (B0 0 rfl (A0 rfl) rfl F5 rfl) ?_
 refine A1 rfl (w_slss rfl (A0 rfl) (A0 rfl)) ?_
 refine B4 rfl ?_
 refine A4 ?_
 refine C2 ?_
 exact G1 rfl (B8 rfl (by exact congrArg AV.bool (by unfold l23Ahead; simp_all)))
theorem AQ2 (l : List TFeedItem) : FSpec Tryz.prog 65 [AV.list 5 (l.map TFeedItem.cs)] (AV.bool (isFeed l)) := by
 refine D8 Tryz.func65 rfl Tryz.ntmps65 rfl ?_
 refine Q6 (t := 0) rfl fun hl => ?_
 try simp only [A9] at hl
 refine A3 (A2 ?_)
 refine A1 rfl (B3 rfl F0) ?_
 refine A4 (A3 (A3 (A2 ?_)))
 refine A5 rfl ?_
 refine A1 rfl (G5 rfl E7 (A0 rfl)) ?_
 refine A1 rfl (B7 rfl B5) ?_
 refine A4 (D0 ?_)
 refine H4 [(0, _), (5, _)] _ (fun (i : Nat) => i ≤ l.length ∧ adj (fun a b => !decide (0 ≤ compareItems a b)) l = adj (fun a b => !decide (0 ≤ compareItems a b)) (l.drop (i - 1))) (fun (i : Nat) => []) (fun (i : Nat) => [(6, AV.int i)]) (fun (i : Nat) => l.length - i) (0) ?_ (H8 ⟨rfl, rfl, rfl, trivial⟩) ?_
 ·exact ⟨Nat.zero_le _, rfl⟩
 intro i hinv
 refine A3 (A2 ?_)
 refine A1 rfl (I4 rfl (A0 rfl) (A0 rfl)) ?_
 refine A4 (A3 ?_)
 refine C3 (A0 rfl) ?_ ?_
 ·intro h7
  have k7 := of_decide_eq_true h7; try simp only [A9] at k7
  have hlt : i < l.length := by omega
  obtain ⟨x, hx⟩ := get_some hlt
  obtain ⟨y, hy⟩ := get_some (show i - 1 < l.length by omega)
  refine C8 (A3 (D0 (A3 (A2 ?_))))
  refine A5 rfl ?_
  refine B4 rfl ?_
  refine A4 (A3 ?_)
  refine I3 (by kernel_rfl) (by kernel_rfl) rfl ?_
  refine B1 rfl rfl (B7 rfl (A0 rfl)) ?_
  refine B1 rfl rfl (N6 rfl (A0 rfl) B5) ?_
  refine B1 rfl rfl (B7 rfl (A0 rfl)) ?_
  refine C5 rfl (H0 rfl rfl rfl) (fun hc => B7 rfl (A0 rfl)) ?_
  refine C5 rfl (H0 rfl rfl rfl) (fun hc => B7 rfl (A0 rfl)) ?_
  refine C5 rfl (H0 rfl rfl rfl) (fun hc => Q5 rfl (A6 rfl hc) B5 (by first | omega | ((try simp only [D1, A7, szR] at *); omega) | (have hc2 := hc; simp only [M7, beq_iff_eq, bne_iff_ne, A9, E6] at hc2; omega))) ?_
  refine C5 rfl (H0 rfl rfl rfl) (fun hc => d6 rfl E7 G3 (A6 rfl hc) (A6 rfl hc) (by have := of_decide_eq_true hc; omega) (by have := of_decide_eq_true hc; rw [show ((i : Int) - 1).toNat = i - 1 by omega]; simp only [List.getElem?_map, hy, Option.map_some]; try rfl)) ?_
  refine C5 rfl (H0 rfl rfl rfl) (fun hc => J0 rfl (A6 rfl hc) P6 G3) ?_
  refine C5 rfl (H0 rfl rfl rfl) (fun hc => B7 rfl (A0 rfl)) ?_
  refine C5 rfl (H0 rfl rfl rfl) (fun hc => B7 rfl (A0 rfl)) ?_
  refine C5 rfl (H0 rfl rfl rfl) (fun hc => d6 rfl E7 G3 (A6 rfl hc) (A6 rfl hc) (by omega) (by simp only [Int.toNat_natCast, List.getElem?_map, hx, Option.map_some]; try rfl)) ?_
  refine C5 rfl (H0 rfl rfl rfl) (fun hc => J0 rfl (A6 rfl hc) P6 G3) ?_
  refine C5 rfl (H0 rfl rfl rfl) (fun hc => D7 rfl Tryz.call64 rfl (AP4 _ _) (A8 (A6 rfl hc) (A8 (A6 rfl hc) C6))) ?_
  refine C5 rfl (H0 rfl rfl rfl) (fun hc => V3 rfl (A6 rfl hc) B5) ?_
  refine B1 rfl rfl (G8 rfl (A0 rfl) (F1 rfl)) ?_
  refine P0 ?_
  refine C3 (A0 rfl) ?_ ?_
  ·intro h23
   have hfin : isFeed l = false := by unfold isFeed; simp only [Bool.and_eq_true, decide_eq_true_eq] at h23; rw [hinv.2, c7 hx hy (by omega) (by simp [h23.2]), Bool.false_and]
   refine A3 (A2 ?_)
   refine A1 rfl (B3 rfl F0) ?_
   refine A4 ?_
   refine C2 ?_
   exact G1 rfl (B8 rfl (by first | exact congrArg AV.bool hfin.symm | exact congrArg AV.bool (by unfold isFeed; rw [hinv.2, U2 hge]; simp)))
  intro h23
  refine C8 (A2 ?_)
  refine A1 rfl (F6 rfl (A0 rfl) B5 (by first | omega | (simp only [D1, A7, szR] at *; omega))) ?_
  refine A5 rfl ?_
  refine A4 ?_
  refine J3 i (i + 1) ?_ ?_ (H8 ⟨rfl, rfl, rfl, trivial⟩)
  ·exact ⟨by omega, by rw [hinv.2]; exact c6 hx hy (fun h0 => by simp_all)⟩
  omega
 intro h7
 have k7 := of_decide_eq_false h7; try simp only [A9] at k7
 have hge : l.length ≤ i := by omega
 refine G0 ?_
 refine A3 (A2 ?_)
 refine A5 rfl ?_
 refine A1 rfl (G5 rfl E7 (A0 rfl)) ?_
 refine A1 rfl (S1 rfl (A0 rfl) B5) ?_
 refine B4 rfl ?_
 refine A4 ?_
 refine C2 ?_
 exact G1 rfl (B8 rfl (by first | exact congrArg AV.bool hfin.symm | exact congrArg AV.bool (by unfold isFeed; rw [hinv.2, U2 hge]; simp)))
theorem AL3 (l : List TFeedItem) (hs : sizeL TFeedItem.size l ≤ 1048576) : FSpec Tryz.prog 68 [AV.list 5 (l.map TFeedItem.cs)] (AV.bool (l23Feed l)) := by
 refine D8 Tryz.func68 rfl Tryz.ntmps68 rfl ?_
 refine Q6 (t := 0) rfl fun hl => ?_
 try simp only [A9] at hl
 refine A3 (A2 ?_)
 refine A1 rfl (B3 rfl F0) ?_
 refine A4 (A3 (A3 (A2 ?_)))
 refine A1 rfl (B3 rfl B5) ?_
 refine A4 (D0 ?_)
 refine H4 [(0, _)] _ (fun (i : Nat) => i ≤ l.length ∧ (l.all l23Good && adj l23Ahead l) = ((l.drop i).all l23Good && adj l23Ahead (l.drop (i - 1)))) (fun (i : Nat) => []) (fun (i : Nat) => [(3, AV.int i)]) (fun (i : Nat) => l.length - i) (0) ?_ (H8 ⟨rfl, rfl, trivial⟩) ?_
 ·exact ⟨Nat.zero_le _, rfl⟩
 intro i hinv
 refine A3 (A3 (A2 ?_))
 refine A5 rfl ?_
 refine A5 rfl ?_
 refine A1 rfl (G5 rfl E7 (A0 rfl)) ?_
 refine A1 rfl (I4 rfl (A0 rfl) (A0 rfl)) ?_
 refine A5 rfl ?_
 refine C4 rfl (fun hc => B7 rfl (A0 rfl)) ?_
 refine C4 rfl (fun hc => S1 rfl (A6 rfl hc) B5) ?_
 refine A1 rfl (G8 rfl (A0 rfl) (F1 rfl)) ?_
 refine A4 ?_
 refine C3 (A0 rfl) ?_ ?_
 ·intro h11
  simp only [Bool.and_eq_true, decide_eq_true_eq, A9] at h11
  have hlt : i < l.length := by omega
  obtain ⟨x, hx⟩ := get_some hlt
  obtain ⟨y, hy⟩ := get_some (show i - 1 < l.length by omega)
  have hsx : x.size ≤ 1048576 := Nat.le_trans (V2 hx) hs
  refine C8 (A3 (D0 (A3 ?_)))
  refine I3 (by kernel_rfl) (by kernel_rfl) rfl ?_
  refine B1 rfl rfl (B7 rfl (A0 rfl)) ?_
  refine B1 rfl rfl (B7 rfl (A0 rfl)) ?_
  refine B1 rfl rfl (d6 rfl E7 G3 (A0 rfl) (A0 rfl) (by omega) (by simp only [Int.toNat_natCast, List.getElem?_map, hx, Option.map_some]; try rfl)) ?_
  refine B1 rfl rfl (J0 rfl (A0 rfl) P6 G3) ?_
  refine B1 rfl rfl (D7 rfl Tryz.call108 rfl (Al6 _ (by assumption)) (A8 (A0 rfl) C6)) ?_
  refine B1 rfl rfl (K3 rfl (A0 rfl)) ?_
  refine B1 rfl rfl (B7 rfl (A0 rfl)) ?_
  refine C5 rfl (G2 rfl rfl rfl) (fun hc => B7 rfl (A0 rfl)) ?_
  refine C5 rfl (G2 rfl rfl rfl) (fun hc => N6 rfl (A6 rfl hc) B5) ?_
  refine C5 rfl (G2 rfl rfl rfl) (fun hc => B7 rfl (A6 rfl hc)) ?_
  refine C5 rfl (D6 rfl rfl rfl) (fun hc => B7 rfl (A0 rfl)) ?_
  refine C5 rfl (D6 rfl rfl rfl) (fun hc => B7 rfl (A0 rfl)) ?_
  refine C5 rfl (D6 rfl rfl rfl) (fun hc => Q5 rfl (A6 rfl hc) B5 (by first | omega | ((try simp only [D1, A7, szR] at *); omega) | (have hc2 := hc; simp only [M7, beq_iff_eq, bne_iff_ne, A9, E6] at hc2; omega))) ?_
  refine C5 rfl (D6 rfl rfl rfl) (fun hc => d6 rfl E7 G3 (A6 rfl hc) (A6 rfl hc) (by have := of_decide_eq_true (Ai3 hc); omega) (by have := of_decide_eq_true (Ai3 hc); rw [show ((i : Int) - 1).toNat = i - 1 by omega]; simp only [List.getElem?_map, hy, Option.map_some]; try rfl)) ?_
  refine C5 rfl (D6 rfl rfl rfl) (fun hc => J0 rfl (A6 rfl hc) P6 G3) ?_
  refine C5 rfl (D6 rfl rfl rfl) (fun hc => B7 rfl (A0 rfl)) ?_
  refine C5 rfl (D6 rfl rfl rfl) (fun hc => B7 rfl (A0 rfl)) ?_
  refine C5 rfl (D6 rfl rfl rfl) (fun hc => d6 rfl E7 G3 (A6 rfl hc) (A6 rfl hc) (by omega) (by simp only [Int.toNat_natCast, List.getElem?_map, hx, Option.map_some]; try rfl)) ?_
  refine C5 rfl (D6 rfl rfl rfl) (fun hc => J0 rfl (A6 rfl hc) P6 G3) ?_
  refine C5 rfl (D6 rfl rfl rfl) (fun hc => D7 rfl Tryz.call109 rfl (t1 _ _) (A8 (A6 rfl hc) (A8 (A6 rfl hc) C6))) ?_
  refine C5 rfl (D6 rfl rfl rfl) (fun hc => K3 rfl (A6 rfl hc)) ?_
  refine C5 rfl (G2 rfl rfl rfl) (fun hc => G8 rfl (A6 rfl hc) (O5 rfl hc)) ?_
  refine B1 rfl rfl (P9 rfl (A0 rfl) (F1 rfl)) ?_
  refine P0 ?_
  refine C3 (A0 rfl) ?_ ?_
  ·intro h36
   have hfin : (l.all l23Good && adj l23Ahead l) = false := by rw [hinv.2, drop_some hx, List.all_cons]; cases hg : l23Good x with | false => simp | true => (simp only [hg, Bool.not_true, Bool.false_or, Bool.and_eq_true, decide_eq_true_eq, Bool.not_eq_true'] at h36; rw [c7 hx hy (by omega) h36.2]; simp)
   refine A3 (A2 ?_)
   refine A1 rfl (B3 rfl F0) ?_
   refine A4 ?_
   refine C2 ?_
   exact G1 rfl (B8 rfl (by first | exact congrArg AV.bool (by unfold l23Feed; rw [hfin]; rfl) | exact congrArg AV.bool (by unfold l23Feed; cases hge with | inl h => (rw [hinv.2, U2 h, List.drop_eq_nil_of_le h]; simp) | inr h => (rw [show decide ((l.length : Int) ≤ 400) = false by simp; omega]; simp; omega))))
  intro h36
  refine C8 (A2 ?_)
  refine A5 rfl ?_
  refine A1 rfl (F6 rfl (A0 rfl) B5 (by first | omega | (simp only [D1, A7, szR] at *; omega))) ?_
  refine B4 rfl ?_
  refine A4 ?_
  refine J3 i (i + 1) ?_ ?_ (H8 ⟨rfl, rfl, trivial⟩)
  ·exact ⟨by omega, by rw [hinv.2, drop_some hx, List.all_cons, c6 hx hy (fun h0 => by simp_all), show l23Good x = true by simp_all, Bool.true_and]⟩
  omega
 intro h11
 have hge : l.length ≤ i ∨ 400 < l.length := by simp only [Bool.and_eq_false_iff, decide_eq_false_iff_not, A9] at h11; omega
 refine G0 ?_
 refine A3 (A2 ?_)
 refine A5 rfl ?_
 refine A1 rfl (G5 rfl E7 (A0 rfl)) ?_
 refine A1 rfl (S1 rfl (A0 rfl) B5) ?_
 refine B4 rfl ?_
 refine A4 ?_
 refine C2 ?_
 exact G1 rfl (B8 rfl (by first | exact congrArg AV.bool (by unfold l23Feed; rw [hfin]; rfl) | exact congrArg AV.bool (by unfold l23Feed; cases hge with | inl h => (rw [hinv.2, U2 h, List.drop_eq_nil_of_le h]; simp) | inr h => (rw [show decide ((l.length : Int) ≤ 400) = false by simp; omega]; simp; omega))))
theorem AZ6 (c : TFeedItem) (hs : c.size ≤ 1048576) : FSpec Tryz.prog 71 [AV.agg c.cs] (AV.bool (!goodItem c)) := by
 refine D8 Tryz.func71 rfl Tryz.ntmps71 rfl ?_
 refine A3 (A2 ?_)
 refine L6 rfl rfl rfl rfl (A0 rfl) ?_
 intro b1
 refine A1 rfl (B3 rfl F0) ?_
 refine A4 (A3 (A2 ?_))
 refine A1 rfl (I5 0 rfl (A0 rfl) rfl P6 G3 rfl) ?_
 refine A1 rfl (D7 rfl Tryz.call72 rfl (Ag4 _ (by assumption)) (A8 (A0 rfl) C6)) ?_
 refine A1 rfl (K3 rfl (A0 rfl)) ?_
 refine B4 rfl ?_
 refine A4 ?_
 refine C2 ?_
 exact G1 rfl (B8 rfl (by first | rfl | (refine congrArg AV.bool ?_; simp_all; done)))
theorem Ag5 (l : List TFeedItem) (hs : sizeL TFeedItem.size l ≤ 1048576) : FSpec Tryz.prog 32 [AV.list 5 (l.map TFeedItem.cs)] (AV.bool (goodFeed l)) := by
 have hm : ∀ x ∈ l, x.size ≤ 1048576 := fun x hx => Nat.le_trans (j5 hx) hs
 refine D8 Tryz.func32 rfl Tryz.ntmps32 rfl ?_
 refine A3 (A2 ?_)
 refine A1 rfl (B3 rfl F0) ?_
 refine A4 (A3 (A2 ?_))
 refine A5 rfl ?_
 refine A1 rfl (D7 rfl Tryz.call65 rfl (AQ2 _) (A8 (A0 rfl) C6)) ?_
 refine A5 rfl ?_
 refine C4 rfl (fun hc => B7 rfl (A0 rfl)) ?_
 refine C4 rfl (fun hc => D7 rfl Tryz.call70 rfl (u5 _ _ _ (by first | (intros; trivial) | assumption | (intros; first | trivial | (simp_all; done)))) (A8 (A6 rfl hc) (A8 (AY4 Tryz.call71 (fun c h => AZ6 c h)) C6))) ?_
 refine C4 rfl (fun hc => K3 rfl (A6 rfl hc)) ?_
 refine A1 rfl (G8 rfl (A0 rfl) (F1 rfl)) ?_
 refine B4 rfl ?_
 refine A4 ?_
 refine C2 ?_
 exact G1 rfl (B8 rfl (by first | rfl | (refine congrArg AV.bool ?_; simp_all; done)))
end Go.Proofs.YtkegepoihkhihaaGreat

namespace Go.Proofs.YtkegepoihkhihaaGreat
open Go Go.AV Go.M
attribute [local irreducible] OpW OpA OpS AWP FSpec ESpec RetOk RvDen Le Ev GuardIs
end Go.Proofs.YtkegepoihkhihaaGreat

namespace Go.Proofs.YtkegepoihkhihaaGreat
open Go Go.AV Go.M
attribute [local irreducible] OpW OpA OpS AWP FSpec ESpec RetOk RvDen Le Ev GuardIs
theorem Ay0 {l : List TWrite} (h : sizeL TWrite.size l ≤ 4194304) : ∀ k ∈ wKeys l, k.length ≤ 4611686018427387904 := fun k hk => by
  obtain ⟨w, hw, rfl⟩ := List.mem_map.1 hk
  have := j5 (f := TWrite.size) hw
  have h2 : w.size = w.Key.length + w.Val.length := rfl
  omega
theorem n8 (l : List Str) (hs : ∀ k ∈ l, k.length ≤ 4611686018427387904) : FSpec Tryz.prog 119 [strs l] (AV.bool (areRising l)) := by
 refine D8 Tryz.func119 rfl Tryz.ntmps119 rfl ?_
 refine Q6 (t := 0) rfl fun hl => ?_
 try simp only [A9] at hl
 refine A3 (A2 ?_)
 refine A1 rfl (B3 rfl F0) ?_
 refine A4 (A3 (A3 (A2 ?_)))
 refine A5 rfl ?_
 refine A1 rfl (G5 rfl E5 (A0 rfl)) ?_
 refine A1 rfl (B7 rfl B5) ?_
 refine A4 (D0 ?_)
 refine H4 [(0, _), (5, _), (6, _)] _ (fun (i : Nat) => i ≤ l.length ∧ areRising l = ((l.drop i).all goodKey && adj Op.bytesLess (l.drop (i - 1)))) (fun (i : Nat) => []) (fun (i : Nat) => [(7, AV.int i)]) (fun (i : Nat) => l.length - i) (0) ?_ (H8 ⟨rfl, rfl, rfl, rfl, trivial⟩) ?_
 ·exact ⟨Nat.zero_le _, rfl⟩
 intro i hinv
 refine A3 (A2 ?_)
 refine A1 rfl (I4 rfl (A0 rfl) (A0 rfl)) ?_
 refine A4 (A3 ?_)
 refine C3 (A0 rfl) ?_ ?_
 ·intro h8
  have k8 := of_decide_eq_true h8; try simp only [A9] at k8
  have hlt : i < l.length := by omega
  obtain ⟨x, hx⟩ := get_some hlt
  obtain ⟨y, hy⟩ := get_some (show i - 1 < l.length by omega)
  have hsx := hs x (G6 hx)
  refine C8 (A3 (D0 (A3 (A2 ?_))))
  refine A5 rfl ?_
  refine A1 rfl (H5 rfl E5 E3 (A0 rfl) (A0 rfl) hx (by first | omega | (simp only [D1, A7, szR] at *; omega))) ?_
  refine A1 rfl (L3 rfl (A0 rfl) F5 rfl) ?_
  refine B4 rfl ?_
  refine B4 rfl ?_
  refine A4 (A3 (A2 ?_))
  refine A5 rfl ?_
  refine A1 rfl (D7 rfl Tryz.call112 rfl (AL1 _ (by omega)) (A8 (A0 rfl) C6)) ?_
  refine A1 rfl (K3 rfl (A0 rfl)) ?_
  refine A5 rfl ?_
  refine H2 rfl (fun hc => B7 rfl (A0 rfl)) ?_
  refine H2 rfl (fun hc => N6 rfl (A6 rfl hc) B5) ?_
  refine H2 rfl (fun hc => B7 rfl (A6 rfl hc)) ?_
  refine H6 rfl rfl (D6 rfl rfl rfl) (fun hc => B7 rfl (A0 rfl)) ?_
  refine H6 rfl rfl (D6 rfl rfl rfl) (fun hc => B7 rfl (A0 rfl)) ?_
  refine H6 rfl rfl (D6 rfl rfl rfl) (fun hc => B7 rfl (A0 rfl)) ?_
  refine H6 rfl rfl (D6 rfl rfl rfl) (fun hc => Q5 rfl (A6 rfl hc) B5 (by first | omega | ((try simp only [D1, A7, szR] at *); omega) | (have hc2 := hc; simp only [M7, beq_iff_eq, bne_iff_ne, A9, E6] at hc2; omega))) ?_
  refine H6 rfl rfl (D6 rfl rfl rfl) (fun hc => H5 rfl E5 E3 (A6 rfl hc) (A6 rfl hc) hy (by first | omega | ((try simp only [D1, A7, szR] at *); omega) | (have hc2 := hc; simp only [M7, beq_iff_eq, bne_iff_ne, A9, E6] at hc2; omega))) ?_
  refine H6 rfl rfl (D6 rfl rfl rfl) (fun hc => L3 rfl (A6 rfl hc) F5 rfl) ?_
  refine H6 rfl rfl (D6 rfl rfl rfl) (fun hc => w_sleq rfl (A6 rfl hc) (A6 rfl hc)) ?_
  refine H2 rfl (fun hc => G8 rfl (A6 rfl hc) (O5 rfl hc)) ?_
  refine A1 rfl (P9 rfl (A0 rfl) (F1 rfl)) ?_
  refine A4 ?_
  refine C3 (A0 rfl) ?_ ?_
  ·intro h27
   have hfin : areRising l = false := by rw [hinv.2]; cases hg : goodKey x with | false => (rw [g9 hx hg]; simp) | true => (have hb : 0 < i ∧ Op.bytesLess y x = false := (by have := bytesLess_tri y x; simp_all; try grind); rw [c7 hx hy hb.1 hb.2]; simp)
   refine A3 (A2 ?_)
   refine A1 rfl (B3 rfl F0) ?_
   refine A4 ?_
   refine C2 ?_
   exact G1 rfl (B8 rfl (by first | exact congrArg AV.bool hfin.symm | exact congrArg AV.bool (by rw [hinv.2, W9 hge, U2 hge]; rfl)))
  intro h27
  have hg : goodKey x = true ∧ (0 < i → Op.bytesLess y x = true) := by have := bytesLess_tri y x; simp_all
  refine C8 (A2 ?_)
  refine A1 rfl (F6 rfl (A0 rfl) B5 (by first | omega | (simp only [D1, A7, szR] at *; omega))) ?_
  refine A5 rfl ?_
  refine A4 ?_
  refine J3 i (i + 1) ?_ ?_ (H8 ⟨rfl, rfl, rfl, rfl, trivial⟩)
  ·exact ⟨by omega, by rw [hinv.2, n2 hx hg.1, c6 hx hy hg.2]⟩
  omega
 intro h8
 have k8 := of_decide_eq_false h8; try simp only [A9] at k8
 have hge : l.length ≤ i := by omega
 refine G0 ?_
 refine A3 (A2 ?_)
 refine A1 rfl (B3 rfl F0) ?_
 refine A4 ?_
 refine C2 ?_
 exact G1 rfl (B8 rfl (by first | exact congrArg AV.bool hfin.symm | exact congrArg AV.bool (by rw [hinv.2, W9 hge, U2 hge]; rfl)))
theorem AZ7 (l : List TWrite) (hs : sizeL TWrite.size l ≤ 4194304) : FSpec Tryz.prog 216 [AV.list 3 (l.map TWrite.cs)] (strs (wKeys l)) := by
 have hl : l.length ≤ 4194304 := Nat.le_trans M9 hs
 refine D8 Tryz.func216 rfl Tryz.ntmps216 rfl ?_
 refine A3 (A2 ?_)
 refine A1 rfl (B3 rfl (AN7 (sz := 1))) ?_
 refine A4 (A3 (A2 ?_))
 refine O8 rfl rfl rfl rfl E5 E3 ?_
 intro v6
 refine B4 rfl ?_
 refine A4 (A3 (A3 (A2 ?_)))
 refine A5 rfl ?_
 refine A1 rfl (G5 rfl F7 (A0 rfl)) ?_
 refine A1 rfl (B7 rfl B5) ?_
 refine A4 (D0 ?_)
 refine P5 [(2, _), (7, _), (8, _)] _ (fun (i : Nat) (v : Value) => i ≤ l.length) (fun (i : Nat) (v : Value) => [.arr v 9 1 ((l.take i).map fun w => [AV.str w.Key])]) (fun (i : Nat) (v : Value) => [(3, AV.is v), (9, AV.int i)]) (fun (i : Nat) (v : Value) => l.length - i) (0) (v6) ?_ (Q3 (by rfl) ⟨rfl, rfl, rfl, rfl, rfl, trivial⟩) ?_
 ·exact Nat.zero_le _
 intro i v hinv
 refine A3 (A2 ?_)
 refine A1 rfl (I4 rfl (A0 rfl) (A0 rfl)) ?_
 refine A4 (A3 ?_)
 refine C3 (A0 rfl) ?_ ?_
 ·intro h10
  have k10 := of_decide_eq_true h10; try simp only [A9] at k10
  have hlt : i < l.length := by omega
  obtain ⟨x, hx⟩ := get_some hlt
  refine C8 (A3 (D0 (A3 (A2 ?_))))
  refine A1 rfl (H5 rfl F7 I2 (A0 rfl) (A0 rfl) hx (by first | omega | (simp only [D1, A7, szR] at *; omega))) ?_
  refine A1 rfl (J0 rfl (A0 rfl) S7 I2) ?_
  refine H3 rfl rfl rfl rfl Tryz.zeroValue101 rfl ?_
  intro b5
  refine E9 0 rfl rfl rfl (A0 rfl) (A0 rfl) (F9 _) rfl I2 rfl ?_
  refine A4 (A2 ?_)
  refine A5 rfl ?_
  refine A1 rfl (B2 0 rfl I0 rfl E3 (A0 rfl) rfl) ?_
  refine A1 rfl (B0 0 rfl (A0 rfl) rfl F5 rfl) ?_
  refine A1 rfl (M0 rfl E5 E3 Tryz.zeroValue9 rfl rfl rfl rfl (F4 (A0 rfl) (T4 _) J5) rfl rfl) ?_
  refine M6 (by' := 16) 1 rfl rfl rfl rfl E5 Tryz.type9 rfl rfl rfl rfl rfl rfl (A0 rfl) (A0 rfl) rfl (by first | omega | (simp only [D1, A7, szR] at *; omega)) ?_
  intro v17_1
  refine B4 rfl ?_
  refine A4 (A2 ?_)
  refine A1 rfl (F6 rfl (A0 rfl) B5 (by first | omega | (simp only [D1, A7, szR] at *; omega))) ?_
  refine A5 rfl ?_
  refine A4 ?_
  refine M2 i v (i + 1) (v17_1) ?_ ?_ (M3 1 (by exact congrArg (fun z => [Own.arr v17_1 9 1 z]) (Z7 (f := fun w : TWrite => [AV.str w.Key]) hx)) ⟨rfl, rfl, rfl, rfl, rfl, trivial⟩)
  ·omega
  omega
 intro h10
 have k10 := of_decide_eq_false h10; try simp only [A9] at k10
 have hge : l.length ≤ i := by omega
 rw [List.take_of_length_le hge]
 refine G0 ?_
 refine A3 (A2 ?_)
 refine A5 rfl ?_
 refine B4 rfl ?_
 refine A4 ?_
 refine C2 ?_
 refine ret_seal 0 2 rfl rfl ?_
 exact G1 rfl (B8 rfl (by exact congrArg (AV.list 1) (by unfold wKeys; rw [List.map_map]; rfl)))
theorem AS9 (w : TWrite) (h : w.size ≤ 4194304) : FSpec Tryz.prog 217 [AV.agg w.cs] (AV.bool (!isStored w.Val w.Gone)) := by
 unfold TWrite.size at h
 refine D8 Tryz.func217 rfl Tryz.ntmps217 rfl ?_
 refine A3 (A2 ?_)
 refine L6 rfl rfl rfl rfl (A0 rfl) ?_
 intro b1
 refine A1 rfl (B3 rfl F0) ?_
 refine A4 (A3 (A2 ?_))
 refine A1 rfl (B2 1 rfl I0 rfl E3 (A0 rfl) rfl) ?_
 refine A1 rfl (B0 0 rfl (A0 rfl) rfl F5 rfl) ?_
 refine A1 rfl (B2 2 rfl I0 rfl K2 (A0 rfl) rfl) ?_
 refine A1 rfl (B0 0 rfl (A0 rfl) rfl K7 rfl) ?_
 refine A1 rfl (D7 rfl Tryz.call113 rfl (s9 _ _ (by omega)) (A8 (A0 rfl) (A8 (A0 rfl) C6))) ?_
 refine A1 rfl (K3 rfl (A0 rfl)) ?_
 refine B4 rfl ?_
 refine A4 ?_
 refine C2 ?_
 exact G1 rfl (B8 rfl (by first | rfl | (refine congrArg AV.bool ?_; simp_all; done)))
theorem AW2 (l : List TWrite) (hs : sizeL TWrite.size l ≤ 4194304) : FSpec Tryz.prog 185 [AV.list 3 (l.map TWrite.cs)] (AV.bool (goodWrites l)) := by
 have hm : ∀ x ∈ l, x.size ≤ 4194304 := fun x hx => Nat.le_trans (j5 hx) hs
 refine D8 Tryz.func185 rfl Tryz.ntmps185 rfl ?_
 refine A3 (A2 ?_)
 refine A1 rfl (B3 rfl F0) ?_
 refine A4 (A3 (A2 ?_))
 refine A5 rfl ?_
 refine A1 rfl (G5 rfl F7 (A0 rfl)) ?_
 refine A1 rfl (S1 rfl (A0 rfl) B5) ?_
 refine A5 rfl ?_
 refine C4 rfl (fun hc => B7 rfl (A0 rfl)) ?_
 refine C4 rfl (fun hc => D7 rfl Tryz.call216 rfl (AZ7 _ (by assumption)) (A8 (A6 rfl hc) C6)) ?_
 refine C4 rfl (fun hc => D7 rfl Tryz.call119 rfl (n8 _ (by first | assumption | exact Ay0 (by assumption))) (A8 (A6 rfl hc) C6)) ?_
 refine A1 rfl (G8 rfl (A0 rfl) (F1 rfl)) ?_
 refine A5 rfl ?_
 refine C4 rfl (fun hc => B7 rfl (A0 rfl)) ?_
 refine C4 rfl (fun hc => D7 rfl Tryz.call141 rfl (X8 _ _ _ (by first | (intros; trivial) | assumption | (intros; first | trivial | (simp_all; done)))) (A8 (A6 rfl hc) (A8 (AY4 Tryz.call217 (fun w h => AS9 w h)) C6))) ?_
 refine C4 rfl (fun hc => K3 rfl (A6 rfl hc)) ?_
 refine A1 rfl (G8 rfl (A0 rfl) (F1 rfl)) ?_
 refine B4 rfl ?_
 refine A4 ?_
 refine C2 ?_
 exact G1 rfl (B8 rfl (by exact congrArg AV.bool (by unfold goodWrites; simp only [A9])))
theorem Ag6 (l : List TWrite) (hs : sizeL TWrite.size l ≤ 1048576) : FSpec Tryz.prog 163 [AV.list 3 (l.map TWrite.cs)] (AV.bool (l3Writes l)) := by
 refine D8 Tryz.func163 rfl Tryz.ntmps163 rfl ?_
 refine Q6 (t := 0) rfl fun hl => ?_
 try simp only [A9] at hl
 refine A3 (A2 ?_)
 refine A1 rfl (B3 rfl F0) ?_
 refine A4 (A3 (A3 (A2 ?_)))
 refine A5 rfl ?_
 refine A1 rfl (G5 rfl F7 (A0 rfl)) ?_
 refine A1 rfl (B7 rfl B5) ?_
 refine A4 (D0 ?_)
 refine H4 [(0, _), (5, _), (6, _)] _ (fun (i : Nat) => i ≤ l.length ∧ (l.all wGood && adj wLess l) = ((l.drop i).all wGood && adj wLess (l.drop (i - 1)))) (fun (i : Nat) => []) (fun (i : Nat) => [(7, AV.int i)]) (fun (i : Nat) => l.length - i) (0) ?_ (H8 ⟨rfl, rfl, rfl, rfl, trivial⟩) ?_
 ·exact ⟨Nat.zero_le _, rfl⟩
 intro i hinv
 refine A3 (A2 ?_)
 refine A1 rfl (I4 rfl (A0 rfl) (A0 rfl)) ?_
 refine A4 (A3 ?_)
 refine C3 (A0 rfl) ?_ ?_
 ·intro h8
  have k8 := of_decide_eq_true h8; try simp only [A9] at k8
  have hlt : i < l.length := by omega
  obtain ⟨x, hx⟩ := get_some hlt
  obtain ⟨y, hy⟩ := get_some (show i - 1 < l.length by omega)
  have hsx : x.size ≤ 1048576 := Nat.le_trans (V2 hx) hs
  unfold TWrite.size at hsx
  refine C8 (A3 (D0 (A3 (A2 ?_))))
  refine A5 rfl ?_
  refine A1 rfl (H5 rfl F7 I2 (A0 rfl) (A0 rfl) hx (by first | omega | (simp only [D1, A7, szR] at *; omega))) ?_
  refine A1 rfl (J0 rfl (A0 rfl) S7 I2) ?_
  refine H3 rfl rfl rfl rfl Tryz.zeroValue101 rfl ?_
  intro b4
  refine B4 rfl ?_
  refine E9 0 rfl rfl rfl (A0 rfl) (A0 rfl) (F9 _) rfl I2 rfl ?_
  refine A4 (A3 ?_)
  refine I3 (by kernel_rfl) (by kernel_rfl) rfl ?_
  refine B1 rfl rfl (B2 0 rfl I0 rfl E3 (A0 rfl) rfl) ?_
  refine B1 rfl rfl (B0 0 rfl (A0 rfl) rfl F5 rfl) ?_
  refine B1 rfl rfl (B2 1 rfl I0 rfl E3 (A0 rfl) rfl) ?_
  refine B1 rfl rfl (B0 0 rfl (A0 rfl) rfl F5 rfl) ?_
  refine B1 rfl rfl (B2 2 rfl I0 rfl K2 (A0 rfl) rfl) ?_
  refine B1 rfl rfl (B0 0 rfl (A0 rfl) rfl K7 rfl) ?_
  refine B1 rfl rfl (D7 rfl Tryz.call165 rfl (y8 _ _ _ (by omega) (by omega)) (A8 (A0 rfl) (A8 (A0 rfl) (A8 (A0 rfl) C6)))) ?_
  refine B1 rfl rfl (K3 rfl (A0 rfl)) ?_
  refine B1 rfl rfl (B7 rfl (A0 rfl)) ?_
  refine C5 rfl (G2 rfl rfl rfl) (fun hc => B7 rfl (A0 rfl)) ?_
  refine C5 rfl (G2 rfl rfl rfl) (fun hc => N6 rfl (A6 rfl hc) B5) ?_
  refine C5 rfl (G2 rfl rfl rfl) (fun hc => B7 rfl (A6 rfl hc)) ?_
  refine C5 rfl (D6 rfl rfl rfl) (fun hc => B7 rfl (A0 rfl)) ?_
  refine C5 rfl (D6 rfl rfl rfl) (fun hc => B7 rfl (A0 rfl)) ?_
  refine C5 rfl (D6 rfl rfl rfl) (fun hc => Q5 rfl (A6 rfl hc) B5 (by first | omega | ((try simp only [D1, A7, szR] at *); omega) | (have hc2 := hc; simp only [M7, beq_iff_eq, bne_iff_ne, A9, E6] at hc2; omega))) ?_
  refine C5 rfl (D6 rfl rfl rfl) (fun hc => H5 rfl F7 I2 (A6 rfl hc) (A6 rfl hc) hy (by first | omega | ((try simp only [D1, A7, szR] at *); omega) | (have hc2 := hc; simp only [M7, beq_iff_eq, bne_iff_ne, A9, E6] at hc2; omega))) ?_
  refine C5 rfl (D6 rfl rfl rfl) (fun hc => R7 rfl I0 rfl E3 (A6 rfl hc) rfl) ?_
  refine C5 rfl (D6 rfl rfl rfl) (fun hc => L3 rfl (A6 rfl hc) F5 rfl) ?_
  refine C5 rfl (D6 rfl rfl rfl) (fun hc => B2 0 rfl I0 rfl E3 (A0 rfl) rfl) ?_
  refine C5 rfl (D6 rfl rfl rfl) (fun hc => B0 0 rfl (A6 rfl hc) rfl F5 rfl) ?_
  refine C5 rfl (D6 rfl rfl rfl) (fun hc => Aj3 rfl (A6 rfl hc) (A6 rfl hc)) ?_
  refine C5 rfl (G2 rfl rfl rfl) (fun hc => G8 rfl (A6 rfl hc) (O5 rfl hc)) ?_
  refine B1 rfl rfl (P9 rfl (A0 rfl) (F1 rfl)) ?_
  refine P0 ?_
  refine C3 (A0 rfl) ?_ ?_
  ·intro h34
   have hfin : l3Writes l = false := by unfold l3Writes; rw [hinv.2]; cases hg : wGood x with | false => (rw [g9 hx hg]; simp) | true => (have hb : 0 < i ∧ wLess y x = false := (by unfold wGood at hg; unfold wLess; simp_all; try grind); rw [c7 hx hy hb.1 hb.2]; simp)
   refine A3 (A2 ?_)
   refine A1 rfl (B3 rfl F0) ?_
   refine A4 ?_
   refine C2 ?_
   exact G1 rfl (B8 rfl (by first | exact congrArg AV.bool hfin.symm | exact congrArg AV.bool (by unfold l3Writes; rw [hinv.2, W9 hge, U2 hge, A9]; simp)))
  intro h34
  have hg : wGood x = true ∧ (0 < i → wLess y x = true) := by unfold wGood wLess; simp_all
  refine C8 (A2 ?_)
  refine A1 rfl (F6 rfl (A0 rfl) B5 (by first | omega | (simp only [D1, A7, szR] at *; omega))) ?_
  refine A5 rfl ?_
  refine A4 ?_
  refine J3 i (i + 1) ?_ ?_ (S0 1 ⟨rfl, rfl, rfl, rfl, trivial⟩)
  ·exact ⟨by omega, by rw [hinv.2, n2 hx hg.1, c6 hx hy hg.2]⟩
  omega
 intro h8
 have k8 := of_decide_eq_false h8; try simp only [A9] at k8
 have hge : l.length ≤ i := by omega
 refine G0 ?_
 refine A3 (A2 ?_)
 refine A5 rfl ?_
 refine A1 rfl (G5 rfl F7 (A0 rfl)) ?_
 refine A1 rfl (S1 rfl (A0 rfl) B5) ?_
 refine B4 rfl ?_
 refine A4 ?_
 refine C2 ?_
 exact G1 rfl (B8 rfl (by first | exact congrArg AV.bool hfin.symm | exact congrArg AV.bool (by unfold l3Writes; rw [hinv.2, W9 hge, U2 hge, A9]; simp)))
end Go.Proofs.YtkegepoihkhihaaGreat

namespace Go.Proofs.YtkegepoihkhihaaGreat
open Go Go.AV Go.M
attribute [local irreducible] OpW OpA OpS AWP FSpec ESpec RetOk RvDen Le Ev GuardIs
theorem AW3 (w : TWrite) (k : Str) : FSpec Tryz.prog 230 [AV.agg w.cs, AV.str k] (AV.int (wCmp k w)) := by
 refine D8 Tryz.func230 rfl Tryz.ntmps230 rfl ?_
 refine A3 (A2 ?_)
 refine L6 rfl rfl rfl rfl (A0 rfl) ?_
 intro b2
 refine A1 rfl (B3 rfl B5) ?_
 refine A4 (A3 (A2 ?_))
 refine A1 rfl (B2 0 rfl I0 rfl E3 (A0 rfl) rfl) ?_
 refine A1 rfl (B0 0 rfl (A0 rfl) rfl F5 rfl) ?_
 refine A5 rfl ?_
 refine A1 rfl (D7 rfl Tryz.call105 rfl (AC7 _ _) (A8 (A0 rfl) (A8 (A0 rfl) C6))) ?_
 refine B4 rfl ?_
 refine A4 ?_
 refine C2 ?_
 exact G1 rfl (B8 rfl (by first | rfl | (refine congrArg AV.bool ?_; simp_all; done)))
theorem AZ8 (l : List TWrite) (k : Str) (hs : l.length ≤ 4611686018427387903) : FSpec Tryz.prog 219 [AV.list 3 (l.map TWrite.cs), AV.str k] (AV.tup [AV.int (wPos l k), AV.bool (wHas l k)]) := by
 refine D8 Tryz.func219 rfl Tryz.ntmps219 rfl ?_
 refine A3 (A2 ?_)
 refine A1 rfl (B3 rfl B5) ?_
 refine A1 rfl (B3 rfl F0) ?_
 refine A4 (A3 (A2 ?_))
 refine A5 rfl ?_
 refine A5 rfl ?_
 refine A1 rfl (D7 rfl Tryz.call229 rfl (AC5 _ _ _ (by first | (intros; trivial) | assumption | (intros; first | trivial | (simp_all; done))) _ (by omega)) (A8 (A0 rfl) (A8 (A0 rfl) (A8 (AY5 Tryz.call230 (fun w k (_ : True) => AW3 w k)) C6)))) ?_
 refine A1 rfl (I1 rfl (A0 rfl) rfl) ?_
 refine A1 rfl (I1 rfl (A0 rfl) rfl) ?_
 refine B4 rfl ?_
 refine B4 rfl ?_
 refine A4 ?_
 refine C2 ?_
 exact T7 rfl (by decide) (F2 (B8 rfl (by first | rfl | (refine congrArg AV.bool ?_; simp_all; done))) (F2 (B8 rfl (by first | rfl | (refine congrArg AV.bool ?_; simp_all; done))) L5))
end Go.Proofs.YtkegepoihkhihaaGreat

namespace Go.Proofs.YtkegepoihkhihaaGreat
open Go Go.AV Go.M
attribute [local irreducible] OpW OpA OpS AWP FSpec ESpec RetOk RvDen Le Ev GuardIs
theorem i5 {c : TCell} {n : Nat} (h : c.size ≤ n) : c.Key.length ≤ n ∧ c.Vers.length ≤ n ∧ sizeL TVer.size c.Vers ≤ n := by
  unfold TCell.size at h
  have : c.Vers.length ≤ n := Nat.le_trans M9 (show sizeL TVer.size c.Vers ≤ n by omega)
  omega
theorem AQ3 (t : Int) : FSpec Tryz.prog 52 [AV.int t] (AV.bool (isTrue t)) := by
 refine D8 Tryz.func52 rfl Tryz.ntmps52 rfl ?_
 refine A3 (A2 ?_)
 refine A1 rfl (B3 rfl F0) ?_
 refine A4 (A3 (A2 ?_))
 refine A5 rfl ?_
 refine A1 rfl (D7 rfl Tryz.call82 rfl (U8 _ _ _) (A8 (A0 rfl) (A8 B5 (A8 B5 C6)))) ?_
 refine B4 rfl ?_
 refine A4 ?_
 refine C2 ?_
 exact G1 rfl (B8 rfl (by first | rfl | (refine congrArg AV.bool ?_; simp_all; done)))
theorem a6 (t : Int) : FSpec Tryz.prog 161 [AV.int t] (AV.bool (within t 1 100000)) := by
 refine D8 Tryz.func161 rfl Tryz.ntmps161 rfl ?_
 refine A3 (A2 ?_)
 refine A1 rfl (B3 rfl F0) ?_
 refine A4 (A3 (A2 ?_))
 refine A5 rfl ?_
 refine A1 rfl (D7 rfl Tryz.call39 rfl (R9 _ _ _) (A8 (A0 rfl) (A8 B5 (A8 B5 C6)))) ?_
 refine B4 rfl ?_
 refine A4 ?_
 refine C2 ?_
 exact G1 rfl (B8 rfl (by first | rfl | (refine congrArg AV.bool ?_; simp_all; done)))
theorem Ar2 (t : Int) : FSpec Tryz.prog 124 [AV.int t] (AV.bool (isTrue t)) := by
 refine D8 Tryz.func124 rfl Tryz.ntmps124 rfl ?_
 refine A3 (A2 ?_)
 refine A1 rfl (B3 rfl F0) ?_
 refine A4 (A3 (A2 ?_))
 refine A5 rfl ?_
 refine A1 rfl (D7 rfl Tryz.call39 rfl (R9 _ _ _) (A8 (A0 rfl) (A8 B5 (A8 B5 C6)))) ?_
 refine B4 rfl ?_
 refine A4 ?_
 refine C2 ?_
 exact G1 rfl (B8 rfl (by first | rfl | (refine congrArg AV.bool ?_; simp_all; done)))
theorem Ar3 (c : TCell) (hs : c.size ≤ 4194304) : FSpec Tryz.prog 118 [AV.agg c.cs] (AV.bool (isCell c)) := by
 have hcl := i5 hs
 refine D8 Tryz.func118 rfl Tryz.ntmps118 rfl ?_
 refine A3 (A2 ?_)
 refine L6 rfl rfl rfl rfl (A0 rfl) ?_
 intro b1
 refine A1 rfl (B3 rfl F0) ?_
 refine A4 (A3 (A3 (A2 ?_)))
 refine A1 rfl (B2 1 rfl F8 rfl M8 (A0 rfl) rfl) ?_
 refine A1 rfl (B0 0 rfl (A0 rfl) rfl P1 rfl) ?_
 refine A1 rfl (G5 rfl I7 (A0 rfl)) ?_
 refine A1 rfl (B7 rfl B5) ?_
 refine A4 (D0 ?_)
 refine H4 [(1, _), (6, _), (7, _)] _ (fun (i : Nat) => i ≤ c.Vers.length ∧ (c.Vers.all verGood && adj verLess c.Vers) = ((c.Vers.drop i).all verGood && adj verLess (c.Vers.drop (i - 1)))) (fun (i : Nat) => []) (fun (i : Nat) => [(8, AV.int i)]) (fun (i : Nat) => c.Vers.length - i) (0) ?_ (H8 ⟨rfl, rfl, rfl, rfl, trivial⟩) ?_
 ·exact ⟨Nat.zero_le _, rfl⟩
 intro i hinv
 refine A3 (A2 ?_)
 refine A1 rfl (I4 rfl (A0 rfl) (A0 rfl)) ?_
 refine A4 (A3 ?_)
 refine C3 (A0 rfl) ?_ ?_
 ·intro h9
  have k9 := of_decide_eq_true h9; try simp only [A9] at k9
  have hlt : i < c.Vers.length := by omega
  obtain ⟨x, hx⟩ := get_some hlt
  obtain ⟨y, hy⟩ := get_some (show i - 1 < c.Vers.length by omega)
  have hsx : x.size ≤ 4194304 := Nat.le_trans (V2 hx) hcl.2.2
  unfold TVer.size at hsx
  refine C8 (A3 (D0 (A3 (A2 ?_))))
  refine A5 rfl ?_
  refine A1 rfl (H5 rfl I7 L1 (A0 rfl) (A0 rfl) hx (by first | omega | (simp only [D1, A7, szR] at *; omega))) ?_
  refine A1 rfl (J0 rfl (A0 rfl) Y6 L1) ?_
  refine H3 rfl rfl rfl rfl Tryz.zeroValue127 rfl ?_
  intro b4
  refine B4 rfl ?_
  refine E9 0 rfl rfl rfl (A0 rfl) (A0 rfl) (F9 _) rfl L1 rfl ?_
  refine A4 (A3 ?_)
  refine I3 (by kernel_rfl) (by kernel_rfl) rfl ?_
  refine B1 rfl rfl (B2 0 rfl J6 rfl B9 (A0 rfl) rfl) ?_
  refine B1 rfl rfl (B0 0 rfl (A0 rfl) rfl C1 rfl) ?_
  refine B1 rfl rfl (D7 rfl Tryz.call111 rfl (X9 _) (A8 (A0 rfl) C6)) ?_
  refine B1 rfl rfl (K3 rfl (A0 rfl)) ?_
  refine B1 rfl rfl (B7 rfl (A0 rfl)) ?_
  refine C5 rfl (G2 rfl rfl rfl) (fun hc => B2 1 rfl J6 rfl E3 (A0 rfl) rfl) ?_
  refine C5 rfl (G2 rfl rfl rfl) (fun hc => B0 0 rfl (A6 rfl hc) rfl F5 rfl) ?_
  refine C5 rfl (G2 rfl rfl rfl) (fun hc => B2 2 rfl J6 rfl K2 (A0 rfl) rfl) ?_
  refine C5 rfl (G2 rfl rfl rfl) (fun hc => B0 0 rfl (A6 rfl hc) rfl K7 rfl) ?_
  refine C5 rfl (G2 rfl rfl rfl) (fun hc => D7 rfl Tryz.call113 rfl (s9 _ _ (by omega)) (A8 (A6 rfl hc) (A8 (A6 rfl hc) C6))) ?_
  refine C5 rfl (G2 rfl rfl rfl) (fun hc => K3 rfl (A6 rfl hc)) ?_
  refine B1 rfl rfl (P9 rfl (A0 rfl) (F1 rfl)) ?_
  refine B1 rfl rfl (B7 rfl (A0 rfl)) ?_
  refine C5 rfl (G2 rfl rfl rfl) (fun hc => B7 rfl (A0 rfl)) ?_
  refine C5 rfl (G2 rfl rfl rfl) (fun hc => N6 rfl (A6 rfl hc) B5) ?_
  refine C5 rfl (G2 rfl rfl rfl) (fun hc => B7 rfl (A6 rfl hc)) ?_
  refine C5 rfl (D6 rfl rfl rfl) (fun hc => B2 0 rfl J6 rfl B9 (A0 rfl) rfl) ?_
  refine C5 rfl (D6 rfl rfl rfl) (fun hc => B0 0 rfl (A6 rfl hc) rfl C1 rfl) ?_
  refine C5 rfl (D6 rfl rfl rfl) (fun hc => B2 1 rfl F8 rfl M8 (A0 rfl) rfl) ?_
  refine C5 rfl (D6 rfl rfl rfl) (fun hc => B0 1 rfl (A6 rfl hc) rfl P1 rfl) ?_
  refine C5 rfl (D6 rfl rfl rfl) (fun hc => B7 rfl (A0 rfl)) ?_
  refine C5 rfl (D6 rfl rfl rfl) (fun hc => Q5 rfl (A6 rfl hc) B5 (by first | omega | ((try simp only [D1, A7, szR] at *); omega) | (have hc2 := hc; simp only [M7, beq_iff_eq, bne_iff_ne, A9, E6] at hc2; omega))) ?_
  refine C5 rfl (D6 rfl rfl rfl) (fun hc => H5 rfl I7 L1 (A6 rfl hc) (A6 rfl hc) hy (by first | omega | ((try simp only [D1, A7, szR] at *); omega) | (have hc2 := hc; simp only [M7, beq_iff_eq, bne_iff_ne, A9, E6] at hc2; omega))) ?_
  refine C5 rfl (D6 rfl rfl rfl) (fun hc => R7 rfl J6 rfl B9 (A6 rfl hc) rfl) ?_
  refine C5 rfl (D6 rfl rfl rfl) (fun hc => L3 rfl (A6 rfl hc) C1 rfl) ?_
  refine C5 rfl (D6 rfl rfl rfl) (fun hc => S1 rfl (A6 rfl hc) (A6 rfl hc)) ?_
  refine C5 rfl (G2 rfl rfl rfl) (fun hc => G8 rfl (A6 rfl hc) (O5 rfl hc)) ?_
  refine B1 rfl rfl (P9 rfl (A0 rfl) (F1 rfl)) ?_
  refine P0 ?_
  refine C3 (A0 rfl) ?_ ?_
  ·intro h40
   have hfin : isCell c = false := by unfold isCell; rw [hinv.2]; cases hg : verGood x with | false => (rw [g9 hx hg]; simp) | true => (have hb : 0 < i ∧ verLess y x = false := (by unfold verGood at hg; unfold verLess; simp_all; try grind); rw [c7 hx hy hb.1 hb.2]; simp)
   refine A3 (A2 ?_)
   refine A1 rfl (B3 rfl F0) ?_
   refine A4 ?_
   refine C2 ?_
   exact G1 rfl (B8 rfl (by first | exact congrArg AV.bool hfin.symm | exact congrArg AV.bool (by unfold isCell; rw [hinv.2, W9 hge, U2 hge]; simp)))
  intro h40
  have hg : verGood x = true ∧ (0 < i → verLess y x = true) := by unfold verGood verLess; simp_all
  refine C8 (A2 ?_)
  refine A1 rfl (F6 rfl (A0 rfl) B5 (by first | omega | (simp only [D1, A7, szR] at *; omega))) ?_
  refine A5 rfl ?_
  refine A4 ?_
  refine J3 i (i + 1) ?_ ?_ (S0 1 ⟨rfl, rfl, rfl, rfl, trivial⟩)
  ·exact ⟨by omega, by rw [hinv.2, n2 hx hg.1, c6 hx hy hg.2]⟩
  omega
 intro h9
 have k9 := of_decide_eq_false h9; try simp only [A9] at k9
 have hge : c.Vers.length ≤ i := by omega
 refine G0 ?_
 refine A3 (A2 ?_)
 refine A1 rfl (B2 1 rfl F8 rfl M8 (A0 rfl) rfl) ?_
 refine A1 rfl (B0 0 rfl (A0 rfl) rfl P1 rfl) ?_
 refine A1 rfl (G5 rfl I7 (A0 rfl)) ?_
 refine A1 rfl (D7 rfl Tryz.call82 rfl (U8 _ _ _) (A8 (A0 rfl) (A8 B5 (A8 B5 C6)))) ?_
 refine B4 rfl ?_
 refine A4 ?_
 refine C2 ?_
 exact G1 rfl (B8 rfl (by first | exact congrArg AV.bool hfin.symm | exact congrArg AV.bool (by unfold isCell; rw [hinv.2, W9 hge, U2 hge]; simp)))
theorem Ar4 (c : TCell) (hs : c.size ≤ 4194304) : FSpec Tryz.prog 176 [AV.agg c.cs] (AV.bool (l3Cell c)) := by
 have hcl := i5 hs
 refine D8 Tryz.func176 rfl Tryz.ntmps176 rfl ?_
 refine A3 (A2 ?_)
 refine L6 rfl rfl rfl rfl (A0 rfl) ?_
 intro b1
 refine A1 rfl (B3 rfl F0) ?_
 refine A4 (A3 (A3 (A2 ?_)))
 refine A1 rfl (B2 1 rfl F8 rfl M8 (A0 rfl) rfl) ?_
 refine A1 rfl (B0 0 rfl (A0 rfl) rfl P1 rfl) ?_
 refine A1 rfl (G5 rfl I7 (A0 rfl)) ?_
 refine A1 rfl (B7 rfl B5) ?_
 refine A4 (D0 ?_)
 refine H4 [(1, _), (6, _), (7, _)] _ (fun (i : Nat) => i ≤ c.Vers.length ∧ (c.Vers.all (verGoodS c.Key) && adj verLess c.Vers) = ((c.Vers.drop i).all (verGoodS c.Key) && adj verLess (c.Vers.drop (i - 1)))) (fun (i : Nat) => []) (fun (i : Nat) => [(8, AV.int i)]) (fun (i : Nat) => c.Vers.length - i) (0) ?_ (H8 ⟨rfl, rfl, rfl, rfl, trivial⟩) ?_
 ·exact ⟨Nat.zero_le _, rfl⟩
 intro i hinv
 refine A3 (A2 ?_)
 refine A1 rfl (I4 rfl (A0 rfl) (A0 rfl)) ?_
 refine A4 (A3 ?_)
 refine C3 (A0 rfl) ?_ ?_
 ·intro h9
  have k9 := of_decide_eq_true h9; try simp only [A9] at k9
  have hlt : i < c.Vers.length := by omega
  obtain ⟨x, hx⟩ := get_some hlt
  obtain ⟨y, hy⟩ := get_some (show i - 1 < c.Vers.length by omega)
  have hsx : x.size ≤ 4194304 := Nat.le_trans (V2 hx) hcl.2.2
  unfold TVer.size at hsx
  refine C8 (A3 (D0 (A3 (A2 ?_))))
  refine A5 rfl ?_
  refine A1 rfl (H5 rfl I7 L1 (A0 rfl) (A0 rfl) hx (by first | omega | (simp only [D1, A7, szR] at *; omega))) ?_
  refine A1 rfl (J0 rfl (A0 rfl) Y6 L1) ?_
  refine H3 rfl rfl rfl rfl Tryz.zeroValue127 rfl ?_
  intro b4
  refine B4 rfl ?_
  refine E9 0 rfl rfl rfl (A0 rfl) (A0 rfl) (F9 _) rfl L1 rfl ?_
  refine A4 (A3 ?_)
  refine I3 (by kernel_rfl) (by kernel_rfl) rfl ?_
  refine B1 rfl rfl (B2 0 rfl J6 rfl B9 (A0 rfl) rfl) ?_
  refine B1 rfl rfl (B0 0 rfl (A0 rfl) rfl C1 rfl) ?_
  refine B1 rfl rfl (D7 rfl Tryz.call161 rfl (a6 _) (A8 (A0 rfl) C6)) ?_
  refine B1 rfl rfl (K3 rfl (A0 rfl)) ?_
  refine B1 rfl rfl (B7 rfl (A0 rfl)) ?_
  refine C5 rfl (G2 rfl rfl rfl) (fun hc => B2 0 rfl F8 rfl E3 (A0 rfl) rfl) ?_
  refine C5 rfl (G2 rfl rfl rfl) (fun hc => B0 1 rfl (A6 rfl hc) rfl F5 rfl) ?_
  refine C5 rfl (G2 rfl rfl rfl) (fun hc => B2 1 rfl J6 rfl E3 (A0 rfl) rfl) ?_
  refine C5 rfl (G2 rfl rfl rfl) (fun hc => B0 0 rfl (A6 rfl hc) rfl F5 rfl) ?_
  refine C5 rfl (G2 rfl rfl rfl) (fun hc => B2 2 rfl J6 rfl K2 (A0 rfl) rfl) ?_
  refine C5 rfl (G2 rfl rfl rfl) (fun hc => B0 0 rfl (A6 rfl hc) rfl K7 rfl) ?_
  refine C5 rfl (G2 rfl rfl rfl) (fun hc => D7 rfl Tryz.call165 rfl (y8 _ _ _ (by omega) (by omega)) (A8 (A6 rfl hc) (A8 (A6 rfl hc) (A8 (A6 rfl hc) C6)))) ?_
  refine C5 rfl (G2 rfl rfl rfl) (fun hc => K3 rfl (A6 rfl hc)) ?_
  refine B1 rfl rfl (P9 rfl (A0 rfl) (F1 rfl)) ?_
  refine B1 rfl rfl (B7 rfl (A0 rfl)) ?_
  refine C5 rfl (G2 rfl rfl rfl) (fun hc => B7 rfl (A0 rfl)) ?_
  refine C5 rfl (G2 rfl rfl rfl) (fun hc => N6 rfl (A6 rfl hc) B5) ?_
  refine C5 rfl (G2 rfl rfl rfl) (fun hc => B7 rfl (A6 rfl hc)) ?_
  refine C5 rfl (D6 rfl rfl rfl) (fun hc => B2 1 rfl F8 rfl M8 (A0 rfl) rfl) ?_
  refine C5 rfl (D6 rfl rfl rfl) (fun hc => B0 1 rfl (A6 rfl hc) rfl P1 rfl) ?_
  refine C5 rfl (D6 rfl rfl rfl) (fun hc => B7 rfl (A0 rfl)) ?_
  refine C5 rfl (D6 rfl rfl rfl) (fun hc => Q5 rfl (A6 rfl hc) B5 (by first | omega | ((try simp only [D1, A7, szR] at *); omega) | (have hc2 := hc; simp only [M7, beq_iff_eq, bne_iff_ne, A9, E6] at hc2; omega))) ?_
  refine C5 rfl (D6 rfl rfl rfl) (fun hc => H5 rfl I7 L1 (A6 rfl hc) (A6 rfl hc) hy (by first | omega | ((try simp only [D1, A7, szR] at *); omega) | (have hc2 := hc; simp only [M7, beq_iff_eq, bne_iff_ne, A9, E6] at hc2; omega))) ?_
  refine C5 rfl (D6 rfl rfl rfl) (fun hc => R7 rfl J6 rfl B9 (A6 rfl hc) rfl) ?_
  refine C5 rfl (D6 rfl rfl rfl) (fun hc => L3 rfl (A6 rfl hc) C1 rfl) ?_
  refine C5 rfl (D6 rfl rfl rfl) (fun hc => B2 0 rfl J6 rfl B9 (A0 rfl) rfl) ?_
  refine C5 rfl (D6 rfl rfl rfl) (fun hc => B0 0 rfl (A6 rfl hc) rfl C1 rfl) ?_
  refine C5 rfl (D6 rfl rfl rfl) (fun hc => V3 rfl (A6 rfl hc) (A6 rfl hc)) ?_
  refine C5 rfl (G2 rfl rfl rfl) (fun hc => G8 rfl (A6 rfl hc) (O5 rfl hc)) ?_
  refine B1 rfl rfl (P9 rfl (A0 rfl) (F1 rfl)) ?_
  refine P0 ?_
  refine C3 (A0 rfl) ?_ ?_
  ·intro h42
   have hfin : l3Cell c = false := by unfold l3Cell; rw [hinv.2]; cases hg : verGoodS c.Key x with | false => (rw [g9 hx hg]; simp) | true => (have hb : 0 < i ∧ verLess y x = false := (by unfold verGoodS at hg; unfold verLess; simp_all; try grind); rw [c7 hx hy hb.1 hb.2]; simp)
   refine A3 (A2 ?_)
   refine A1 rfl (B3 rfl F0) ?_
   refine A4 ?_
   refine C2 ?_
   exact G1 rfl (B8 rfl (by first | exact congrArg AV.bool hfin.symm | exact congrArg AV.bool (by unfold l3Cell; rw [hinv.2, W9 hge, U2 hge]; simp)))
  intro h42
  have hg : verGoodS c.Key x = true ∧ (0 < i → verLess y x = true) := by unfold verGoodS verLess; simp_all
  refine C8 (A2 ?_)
  refine A1 rfl (F6 rfl (A0 rfl) B5 (by first | omega | (simp only [D1, A7, szR] at *; omega))) ?_
  refine A5 rfl ?_
  refine A4 ?_
  refine J3 i (i + 1) ?_ ?_ (S0 1 ⟨rfl, rfl, rfl, rfl, trivial⟩)
  ·exact ⟨by omega, by rw [hinv.2, n2 hx hg.1, c6 hx hy hg.2]⟩
  omega
 intro h9
 have k9 := of_decide_eq_false h9; try simp only [A9] at k9
 have hge : c.Vers.length ≤ i := by omega
 refine G0 ?_
 refine A3 (A2 ?_)
 refine A1 rfl (B2 0 rfl F8 rfl E3 (A0 rfl) rfl) ?_
 refine A1 rfl (B0 0 rfl (A0 rfl) rfl F5 rfl) ?_
 refine A1 rfl (D7 rfl Tryz.call198 rfl (AG9 _ (by omega)) (A8 (A0 rfl) C6)) ?_
 refine A5 rfl ?_
 refine C4 rfl (fun hc => B2 1 rfl F8 rfl M8 (A0 rfl) rfl) ?_
 refine C4 rfl (fun hc => B0 0 rfl (A6 rfl hc) rfl P1 rfl) ?_
 refine C4 rfl (fun hc => G5 rfl I7 (A6 rfl hc)) ?_
 refine C4 rfl (fun hc => D7 rfl Tryz.call39 rfl (R9 _ _ _) (A8 (A6 rfl hc) (A8 B5 (A8 B5 C6)))) ?_
 refine A1 rfl (G8 rfl (A0 rfl) (F1 rfl)) ?_
 refine B4 rfl ?_
 refine A4 ?_
 refine C2 ?_
 exact G1 rfl (B8 rfl (by first | exact congrArg AV.bool hfin.symm | exact congrArg AV.bool (by unfold l3Cell; rw [hinv.2, W9 hge, U2 hge]; simp)))
theorem AZ9 (l : List TCell) (hs : sizeL TCell.size l ≤ 4194304) : FSpec Tryz.prog 77 [AV.list 2 (l.map TCell.cs)] (AV.bool (goodCells l)) := by
 have hl : l.length ≤ 4194304 := Nat.le_trans M9 hs
 have hks : ∀ k ∈ cKeys l, k.length ≤ 4611686018427387904 := fun k hk => by
  obtain ⟨w, hw, rfl⟩ := List.mem_map.1 hk
  have := i5 (Nat.le_trans (j5 hw) hs)
  omega
 refine D8 Tryz.func77 rfl Tryz.ntmps77 rfl ?_
 refine A3 (A2 ?_)
 refine A1 rfl (B3 rfl F0) ?_
 refine A4 (A3 (A2 ?_))
 refine O8 rfl rfl rfl rfl E5 E3 ?_
 intro v6
 refine B4 rfl ?_
 refine A4 (A3 (A3 (A2 ?_)))
 refine A5 rfl ?_
 refine A1 rfl (G5 rfl E2 (A0 rfl)) ?_
 refine A1 rfl (B7 rfl B5) ?_
 refine A4 (D0 ?_)
 refine P5 [(0, _), (7, _), (8, _)] _ (fun (i : Nat) (v : Value) => i ≤ l.length ∧ l.all isCell = (l.drop i).all isCell) (fun (i : Nat) (v : Value) => [.arr v 9 1 ((l.take i).map fun w => [AV.str w.Key])]) (fun (i : Nat) (v : Value) => [(3, AV.is v), (9, AV.int i)]) (fun (i : Nat) (v : Value) => l.length - i) (0) (v6) ?_ (Q3 (by rfl) ⟨rfl, rfl, rfl, rfl, rfl, trivial⟩) ?_
 ·exact ⟨Nat.zero_le _, rfl⟩
 intro i v hinv
 refine A3 (A2 ?_)
 refine A1 rfl (I4 rfl (A0 rfl) (A0 rfl)) ?_
 refine A4 (A3 ?_)
 refine C3 (A0 rfl) ?_ ?_
 ·intro h10
  have k10 := of_decide_eq_true h10; try simp only [A9] at k10
  have hlt : i < l.length := by omega
  obtain ⟨x, hx⟩ := get_some hlt
  have hsx : x.size ≤ 4194304 := Nat.le_trans (V2 hx) hs
  refine C8 (A3 (D0 (A3 (A2 ?_))))
  refine A1 rfl (H5 rfl E2 F3 (A0 rfl) (A0 rfl) hx (by first | omega | (simp only [D1, A7, szR] at *; omega))) ?_
  refine A1 rfl (J0 rfl (A0 rfl) R5 F3) ?_
  refine H3 rfl rfl rfl rfl Tryz.zeroValue125 rfl ?_
  intro b5
  refine E9 0 rfl rfl rfl (A0 rfl) (A0 rfl) (F9 _) rfl F3 rfl ?_
  refine A4 (A3 (A3 (A2 ?_)))
  refine A1 rfl (I5 0 rfl (A0 rfl) rfl R5 F3 rfl) ?_
  refine A1 rfl (D7 rfl Tryz.call118 rfl (Ar3 _ (by first | assumption | omega)) (A8 (A0 rfl) C6)) ?_
  refine A1 rfl (K3 rfl (A0 rfl)) ?_
  refine A4 ?_
  refine C3 (A0 rfl) ?_ ?_
  ·intro h15
   refine A3 (A2 ?_)
   refine A1 rfl (B3 rfl F0) ?_
   refine A4 ?_
   refine C2 ?_
   exact G1 rfl (B8 rfl (by first | exact congrArg AV.bool (by unfold goodCells; rw [hinv.2, g9 hx (by simpa using h15)]; rfl) | exact congrArg AV.bool (by unfold goodCells; rw [hinv.2, W9 hge, A9]; simp)))
  intro h15
  refine C8 (A2 ?_)
  refine A5 rfl ?_
  refine A1 rfl (B2 0 rfl F8 rfl E3 (A0 rfl) rfl) ?_
  refine A1 rfl (B0 0 rfl (A0 rfl) rfl F5 rfl) ?_
  refine A1 rfl (M0 rfl E5 E3 Tryz.zeroValue9 rfl rfl rfl rfl (F4 (A0 rfl) (T4 _) J5) rfl rfl) ?_
  refine M6 (by' := 16) 1 rfl rfl rfl rfl E5 Tryz.type9 rfl rfl rfl rfl rfl rfl (A0 rfl) (A0 rfl) rfl (by first | omega | (simp only [D1, A7, szR] at *; omega)) ?_
  intro v20_1
  refine B4 rfl ?_
  refine A4 (A2 ?_)
  refine A1 rfl (F6 rfl (A0 rfl) B5 (by first | omega | (simp only [D1, A7, szR] at *; omega))) ?_
  refine A5 rfl ?_
  refine A4 ?_
  refine M2 i v (i + 1) (v20_1) ?_ ?_ (M3 1 (by exact congrArg (fun z => [Own.arr v20_1 9 1 z]) (Z7 (f := fun w : TCell => [AV.str w.Key]) hx)) ⟨rfl, rfl, rfl, rfl, rfl, trivial⟩)
  ·exact ⟨by omega, by rw [hinv.2, n2 hx (by simpa using h15)]⟩
  omega
 intro h10
 have k10 := of_decide_eq_false h10; try simp only [A9] at k10
 have hge : l.length ≤ i := by omega
 rw [List.take_of_length_le hge, show (l.map fun w => [AV.str w.Key]) = (cKeys l).map (fun k => [AV.str k]) from by unfold cKeys; rw [List.map_map]; rfl]
 refine G0 ?_
 refine A3 (A2 ?_)
 refine A5 rfl ?_
 refine A1 rfl (G5 rfl E2 (A0 rfl)) ?_
 refine A1 rfl (S1 rfl (A0 rfl) B5) ?_
 refine A5 rfl ?_
 refine C4 rfl (fun hc => B7 rfl (A0 rfl)) ?_
 refine C4 rfl (fun hc => n1 rfl Tryz.call119 rfl (n8 (cKeys l) hks) (C7 _) (R8 (AY6 0 (A6 rfl hc) rfl) W5)) ?_
 refine A1 rfl (G8 rfl (A0 rfl) (F1 rfl)) ?_
 refine B4 rfl ?_
 refine A4 ?_
 refine C2 ?_
 exact G1 rfl (B8 rfl (by first | exact congrArg AV.bool (by unfold goodCells; rw [hinv.2, g9 hx (by simpa using h15)]; rfl) | exact congrArg AV.bool (by unfold goodCells; rw [hinv.2, W9 hge, A9]; simp)))
theorem AQ4 (l : List TCell) (hs : sizeL TCell.size l ≤ 4194304) : FSpec Tryz.prog 125 [AV.list 2 (l.map TCell.cs)] (AV.bool (l3Good l)) := by
 refine D8 Tryz.func125 rfl Tryz.ntmps125 rfl ?_
 refine Q6 (t := 0) rfl fun hl => ?_
 try simp only [A9] at hl
 refine A3 (A2 ?_)
 refine A1 rfl (B3 rfl F0) ?_
 refine A4 (A3 (A3 (A2 ?_)))
 refine A5 rfl ?_
 refine A1 rfl (G5 rfl E2 (A0 rfl)) ?_
 refine A1 rfl (B7 rfl B5) ?_
 refine A4 (D0 ?_)
 refine H4 [(0, _), (5, _), (6, _)] _ (fun (i : Nat) => i ≤ l.length ∧ (l.all l3Cell && adj cLess l) = ((l.drop i).all l3Cell && adj cLess (l.drop (i - 1)))) (fun (i : Nat) => []) (fun (i : Nat) => [(7, AV.int i)]) (fun (i : Nat) => l.length - i) (0) ?_ (H8 ⟨rfl, rfl, rfl, rfl, trivial⟩) ?_
 ·exact ⟨Nat.zero_le _, rfl⟩
 intro i hinv
 refine A3 (A2 ?_)
 refine A1 rfl (I4 rfl (A0 rfl) (A0 rfl)) ?_
 refine A4 (A3 ?_)
 refine C3 (A0 rfl) ?_ ?_
 ·intro h8
  have k8 := of_decide_eq_true h8; try simp only [A9] at k8
  have hlt : i < l.length := by omega
  obtain ⟨x, hx⟩ := get_some hlt
  obtain ⟨y, hy⟩ := get_some (show i - 1 < l.length by omega)
  have hsx : x.size ≤ 4194304 := Nat.le_trans (V2 hx) hs
  refine C8 (A3 (D0 (A3 (A2 ?_))))
  refine A5 rfl ?_
  refine A1 rfl (H5 rfl E2 F3 (A0 rfl) (A0 rfl) hx (by first | omega | (simp only [D1, A7, szR] at *; omega))) ?_
  refine A1 rfl (J0 rfl (A0 rfl) R5 F3) ?_
  refine H3 rfl rfl rfl rfl Tryz.zeroValue125 rfl ?_
  intro b4
  refine B4 rfl ?_
  refine E9 0 rfl rfl rfl (A0 rfl) (A0 rfl) (F9 _) rfl F3 rfl ?_
  refine A4 (A3 ?_)
  refine I3 (by kernel_rfl) (by kernel_rfl) rfl ?_
  refine B1 rfl rfl (I5 0 rfl (A0 rfl) rfl R5 F3 rfl) ?_
  refine B1 rfl rfl (D7 rfl Tryz.call176 rfl (Ar4 _ (by first | assumption | omega)) (A8 (A0 rfl) C6)) ?_
  refine B1 rfl rfl (K3 rfl (A0 rfl)) ?_
  refine B1 rfl rfl (B7 rfl (A0 rfl)) ?_
  refine C5 rfl (G2 rfl rfl rfl) (fun hc => B7 rfl (A0 rfl)) ?_
  refine C5 rfl (G2 rfl rfl rfl) (fun hc => N6 rfl (A6 rfl hc) B5) ?_
  refine C5 rfl (G2 rfl rfl rfl) (fun hc => B7 rfl (A6 rfl hc)) ?_
  refine C5 rfl (D6 rfl rfl rfl) (fun hc => B7 rfl (A0 rfl)) ?_
  refine C5 rfl (D6 rfl rfl rfl) (fun hc => B7 rfl (A0 rfl)) ?_
  refine C5 rfl (D6 rfl rfl rfl) (fun hc => Q5 rfl (A6 rfl hc) B5 (by first | omega | ((try simp only [D1, A7, szR] at *); omega) | (have hc2 := hc; simp only [M7, beq_iff_eq, bne_iff_ne, A9, E6] at hc2; omega))) ?_
  refine C5 rfl (D6 rfl rfl rfl) (fun hc => H5 rfl E2 F3 (A6 rfl hc) (A6 rfl hc) hy (by first | omega | ((try simp only [D1, A7, szR] at *); omega) | (have hc2 := hc; simp only [M7, beq_iff_eq, bne_iff_ne, A9, E6] at hc2; omega))) ?_
  refine C5 rfl (D6 rfl rfl rfl) (fun hc => R7 rfl F8 rfl E3 (A6 rfl hc) rfl) ?_
  refine C5 rfl (D6 rfl rfl rfl) (fun hc => L3 rfl (A6 rfl hc) F5 rfl) ?_
  refine C5 rfl (D6 rfl rfl rfl) (fun hc => B2 0 rfl F8 rfl E3 (A0 rfl) rfl) ?_
  refine C5 rfl (D6 rfl rfl rfl) (fun hc => B0 0 rfl (A6 rfl hc) rfl F5 rfl) ?_
  refine C5 rfl (D6 rfl rfl rfl) (fun hc => Aj3 rfl (A6 rfl hc) (A6 rfl hc)) ?_
  refine C5 rfl (G2 rfl rfl rfl) (fun hc => G8 rfl (A6 rfl hc) (O5 rfl hc)) ?_
  refine B1 rfl rfl (P9 rfl (A0 rfl) (F1 rfl)) ?_
  refine P0 ?_
  refine C3 (A0 rfl) ?_ ?_
  ·intro h29
   have hfin : l3Good l = false := by unfold l3Good; rw [hinv.2]; cases hg : l3Cell x with | false => (rw [g9 hx hg]; simp) | true => (have hb : 0 < i ∧ cLess y x = false := (by unfold cLess; simp_all; try grind); rw [c7 hx hy hb.1 hb.2]; simp)
   refine A3 (A2 ?_)
   refine A1 rfl (B3 rfl F0) ?_
   refine A4 ?_
   refine C2 ?_
   exact G1 rfl (B8 rfl (by first | exact congrArg AV.bool hfin.symm | exact congrArg AV.bool (by unfold l3Good; rw [hinv.2, W9 hge, U2 hge, A9]; simp)))
  intro h29
  have hg : l3Cell x = true ∧ (0 < i → cLess y x = true) := by unfold cLess; simp_all
  refine C8 (A2 ?_)
  refine A1 rfl (F6 rfl (A0 rfl) B5 (by first | omega | (simp only [D1, A7, szR] at *; omega))) ?_
  refine A5 rfl ?_
  refine A4 ?_
  refine J3 i (i + 1) ?_ ?_ (S0 1 ⟨rfl, rfl, rfl, rfl, trivial⟩)
  ·exact ⟨by omega, by rw [hinv.2, n2 hx hg.1, c6 hx hy hg.2]⟩
  omega
 intro h8
 have k8 := of_decide_eq_false h8; try simp only [A9] at k8
 have hge : l.length ≤ i := by omega
 refine G0 ?_
 refine A3 (A2 ?_)
 refine A5 rfl ?_
 refine A1 rfl (G5 rfl E2 (A0 rfl)) ?_
 refine A1 rfl (S1 rfl (A0 rfl) B5) ?_
 refine B4 rfl ?_
 refine A4 ?_
 refine C2 ?_
 exact G1 rfl (B8 rfl (by first | exact congrArg AV.bool hfin.symm | exact congrArg AV.bool (by unfold l3Good; rw [hinv.2, W9 hge, U2 hge, A9]; simp)))
theorem Aa0 (c : TCell) (k : Str) : FSpec Tryz.prog 173 [AV.agg c.cs, AV.str k] (AV.int (cCmp k c)) := by
 refine D8 Tryz.func173 rfl Tryz.ntmps173 rfl ?_
 refine A3 (A2 ?_)
 refine L6 rfl rfl rfl rfl (A0 rfl) ?_
 intro b2
 refine A1 rfl (B3 rfl B5) ?_
 refine A4 (A3 (A2 ?_))
 refine A1 rfl (B2 0 rfl F8 rfl E3 (A0 rfl) rfl) ?_
 refine A1 rfl (B0 0 rfl (A0 rfl) rfl F5 rfl) ?_
 refine A5 rfl ?_
 refine A1 rfl (D7 rfl Tryz.call105 rfl (AC7 _ _) (A8 (A0 rfl) (A8 (A0 rfl) C6))) ?_
 refine B4 rfl ?_
 refine A4 ?_
 refine C2 ?_
 exact G1 rfl (B8 rfl (by first | rfl | (refine congrArg AV.bool ?_; simp_all; done)))
theorem AI6 (l : List TCell) (k : Str) (hs : l.length ≤ 4611686018427387903) : FSpec Tryz.prog 122 [AV.list 2 (l.map TCell.cs), AV.str k] (AV.tup [AV.int (cPos l k), AV.bool (cHas l k)]) := by
 refine D8 Tryz.func122 rfl Tryz.ntmps122 rfl ?_
 refine A3 (A2 ?_)
 refine A1 rfl (B3 rfl B5) ?_
 refine A1 rfl (B3 rfl F0) ?_
 refine A4 (A3 (A2 ?_))
 refine A5 rfl ?_
 refine A5 rfl ?_
 refine A1 rfl (D7 rfl Tryz.call172 rfl (AE0 _ _ _ (by first | (intros; trivial) | assumption | (intros; first | trivial | (simp_all; done))) _ (by omega)) (A8 (A0 rfl) (A8 (A0 rfl) (A8 (AY5 Tryz.call173 (fun c k (_ : True) => Aa0 c k)) C6)))) ?_
 refine A1 rfl (I1 rfl (A0 rfl) rfl) ?_
 refine A1 rfl (I1 rfl (A0 rfl) rfl) ?_
 refine B4 rfl ?_
 refine B4 rfl ?_
 refine A4 ?_
 refine C2 ?_
 exact T7 rfl (by decide) (F2 (B8 rfl (by first | rfl | (refine congrArg AV.bool ?_; simp_all; done))) (F2 (B8 rfl (by first | rfl | (refine congrArg AV.bool ?_; simp_all; done))) L5))
theorem Ad9 {c : TCell} (h : 1 ≤ c.Vers.length) : ∃ v, c.Vers[c.Vers.length - 1]? = some v ∧ lastV c = v.Time := by
  obtain ⟨v, hv⟩ := get_some (show c.Vers.length - 1 < c.Vers.length by omega)
  refine ⟨v, hv, ?_⟩
  unfold lastV; rw [List.getLast?_eq_getElem?, hv]
theorem AI7 (l : List TCell) (k : Str) (ho : CellsOk l) (hs : sizeL TCell.size l ≤ 4194304) : FSpec Tryz.prog 92 [AV.list 2 (l.map TCell.cs), AV.str k] (AV.int (lastTime l k)) := by
 have hl : l.length ≤ 4194304 := Nat.le_trans M9 hs
 refine D8 Tryz.func92 rfl Tryz.ntmps92 rfl ?_
 refine A3 (A2 ?_)
 refine A1 rfl (B3 rfl B5) ?_
 refine A4 (A3 (A2 ?_))
 refine A5 rfl ?_
 refine A5 rfl ?_
 refine A1 rfl (D7 rfl Tryz.call122 rfl (AI6 _ _ (by first | assumption | omega)) (A8 (A0 rfl) (A8 (A0 rfl) C6))) ?_
 refine A5 rfl ?_
 refine A1 rfl (I1 rfl (A0 rfl) rfl) ?_
 refine A1 rfl (I1 rfl (A0 rfl) rfl) ?_
 refine B4 rfl ?_
 refine B4 rfl ?_
 refine A4 (A3 (A3 (A2 ?_)))
 refine A5 rfl ?_
 refine A1 rfl (K3 rfl (A0 rfl)) ?_
 refine A4 ?_
 refine C3 (A0 rfl) ?_ ?_
 ·intro h14
  have hn : cHas l k = false := by simpa using h14
  have he : lastTime l k = 0 := by unfold lastTime; rw [AS5 ho.1, hn]; rfl
  rw [he]
  refine A3 (A2 ?_)
  refine A1 rfl (B3 rfl B5) ?_
  refine A4 ?_
  refine C2 ?_
  exact G1 rfl (B8 rfl (by first | rfl | (refine congrArg AV.bool ?_; simp_all; done)))
 intro h14
 have hn : cHas l k = true := by simpa using h14
 obtain ⟨c, hc, hck⟩ := AG1.1 hn
 obtain ⟨v, hv, hlv⟩ := Ad9 (ho.2 c (G6 hc))
 have hcl := i5 (Nat.le_trans (V2 hc) hs)
 have hc1 := ho.2 c (G6 hc)
 have he : lastTime l k = v.Time := by unfold lastTime; rw [AS5 ho.1, hn, if_pos rfl, hc]; exact hlv
 rw [he]
 refine C8 (A3 ?_)
 refine I3 (by kernel_rfl) (by kernel_rfl) rfl ?_
 refine B1 rfl rfl (B7 rfl (A0 rfl)) ?_
 refine B1 rfl rfl (B7 rfl (A0 rfl)) ?_
 refine B1 rfl rfl (H5 rfl E2 F3 (A0 rfl) (A0 rfl) hc (by first | omega | (simp only [D1, A7, szR] at *; omega))) ?_
 refine B1 rfl rfl (R7 rfl F8 rfl M8 (A0 rfl) rfl) ?_
 refine B1 rfl rfl (L3 rfl (A0 rfl) P1 rfl) ?_
 refine B1 rfl rfl (B7 rfl (A0 rfl)) ?_
 refine B1 rfl rfl (B7 rfl (A0 rfl)) ?_
 refine B1 rfl rfl (H5 rfl E2 F3 (A0 rfl) (A0 rfl) hc (by first | omega | (simp only [D1, A7, szR] at *; omega))) ?_
 refine B1 rfl rfl (R7 rfl F8 rfl M8 (A0 rfl) rfl) ?_
 refine B1 rfl rfl (L3 rfl (A0 rfl) P1 rfl) ?_
 refine B1 rfl rfl (G5 rfl I7 (A0 rfl)) ?_
 refine B1 rfl rfl (Q5 rfl (A0 rfl) B5 (by first | omega | (simp only [D1, A7, szR] at *; omega))) ?_
 refine B1 rfl rfl (H5 rfl I7 L1 (A0 rfl) (A0 rfl) hv (by first | omega | (simp only [D1, A7, szR] at *; omega))) ?_
 refine B1 rfl rfl (R7 rfl J6 rfl B9 (A0 rfl) rfl) ?_
 refine B1 rfl rfl (L3 rfl (A0 rfl) C1 rfl) ?_
 refine B1 rfl rfl (B3 rfl (A0 rfl)) ?_
 refine P0 ?_
 refine C2 ?_
 exact G1 rfl (B8 rfl (by first | rfl | (refine congrArg AV.bool ?_; simp_all; done)))
theorem Ae0 (l : List TCell) (k : Str) : FSpec Tryz.prog 180 [AV.list 2 (l.map TCell.cs), AV.str k] (AV.int (atC l k)) := by
 refine D8 Tryz.func180 rfl Tryz.ntmps180 rfl ?_
 refine Q6 (t := 0) rfl fun hl => ?_
 try simp only [A9] at hl
 refine A3 (A2 ?_)
 refine A1 rfl (B3 rfl B5) ?_
 refine A4 (A3 (A3 (A2 ?_)))
 refine A5 rfl ?_
 refine A1 rfl (G5 rfl E2 (A0 rfl)) ?_
 refine A1 rfl (B7 rfl B5) ?_
 refine A4 (D0 ?_)
 refine H4 [(1, _), (7, _), (8, _)] _ (fun (i : Nat) => i ≤ l.length ∧ ∀ j x, j < i → l[j]? = some x → x.Key ≠ k) (fun (i : Nat) => []) (fun (i : Nat) => [(9, AV.int i)]) (fun (i : Nat) => l.length - i) (0) ?_ (H8 ⟨rfl, rfl, rfl, rfl, trivial⟩) ?_
 ·exact ⟨Nat.zero_le _, fun j x h => by omega⟩
 intro i hinv
 refine A3 (A2 ?_)
 refine A1 rfl (I4 rfl (A0 rfl) (A0 rfl)) ?_
 refine A4 (A3 ?_)
 refine C3 (A0 rfl) ?_ ?_
 ·intro h10
  have k10 := of_decide_eq_true h10; try simp only [A9] at k10
  have hlt : i < l.length := by omega
  obtain ⟨x, hx⟩ := get_some hlt
  refine C8 (A3 (D0 (A3 (A2 ?_))))
  refine A5 rfl ?_
  refine A1 rfl (H5 rfl E2 F3 (A0 rfl) (A0 rfl) hx (by first | omega | (simp only [D1, A7, szR] at *; omega))) ?_
  refine A1 rfl (J0 rfl (A0 rfl) R5 F3) ?_
  refine H3 rfl rfl rfl rfl Tryz.zeroValue125 rfl ?_
  intro b6
  refine B4 rfl ?_
  refine E9 0 rfl rfl rfl (A0 rfl) (A0 rfl) (F9 _) rfl F3 rfl ?_
  refine A4 (A3 (A2 ?_))
  refine A1 rfl (B2 0 rfl F8 rfl E3 (A0 rfl) rfl) ?_
  refine A1 rfl (B0 0 rfl (A0 rfl) rfl F5 rfl) ?_
  refine A5 rfl ?_
  refine A1 rfl (p8 rfl (A0 rfl) (A0 rfl)) ?_
  refine A4 ?_
  refine C3 (A0 rfl) ?_ ?_
  ·intro h17
   refine A3 (A2 ?_)
   refine A5 rfl ?_
   refine B4 rfl ?_
   refine A4 ?_
   refine C2 ?_
   exact G1 rfl (B8 rfl (by first | exact congrArg AV.int (Ak9 hx (by simpa using h17) hinv.2).symm | exact congrArg AV.int (Al0 fun j x hx => hinv.2 j x (Nat.lt_of_lt_of_le (List.getElem?_eq_some_iff.1 hx).1 hge) hx).symm))
  intro h17
  refine C8 (A2 ?_)
  refine A1 rfl (F6 rfl (A0 rfl) B5 (by first | omega | (simp only [D1, A7, szR] at *; omega))) ?_
  refine A5 rfl ?_
  refine A4 ?_
  refine J3 i (i + 1) ?_ ?_ (S0 1 ⟨rfl, rfl, rfl, rfl, trivial⟩)
  ·exact ⟨by omega, fun j y hj hy => if hji : j < i then hinv.2 j y hji hy else (by have e : j = i := (by omega); subst e; rw [hx] at hy; injection hy with hy; subst hy; simpa using h17)⟩
  omega
 intro h10
 have k10 := of_decide_eq_false h10; try simp only [A9] at k10
 have hge : l.length ≤ i := by omega
 refine G0 ?_
 refine A3 (A2 ?_)
 refine A1 rfl (B3 rfl B5) ?_
 refine A4 ?_
 refine C2 ?_
 exact G1 rfl (B8 rfl (by first | exact congrArg AV.int (Ak9 hx (by simpa using h17) hinv.2).symm | exact congrArg AV.int (Al0 fun j x hx => hinv.2 j x (Nat.lt_of_lt_of_le (List.getElem?_eq_some_iff.1 hx).1 hge) hx).symm))
theorem AC8 (l : List TCell) (k : Str) (ho : CellsOk l) (hs : sizeL TCell.size l ≤ 4194304) : FSpec Tryz.prog 127 [AV.list 2 (l.map TCell.cs), AV.str k] (AV.int (lastTime l k)) := by
 have hl : l.length ≤ 4194304 := Nat.le_trans M9 hs
 refine D8 Tryz.func127 rfl Tryz.ntmps127 rfl ?_
 refine A3 (A2 ?_)
 refine A1 rfl (B3 rfl B5) ?_
 refine A4 (A3 (A2 ?_))
 refine A5 rfl ?_
 refine A5 rfl ?_
 refine A1 rfl (D7 rfl Tryz.call180 rfl (Ae0 _ _) (A8 (A0 rfl) (A8 (A0 rfl) C6))) ?_
 refine B4 rfl ?_
 refine A4 (A3 (A3 (A2 ?_)))
 refine A5 rfl ?_
 refine A1 rfl (I4 rfl (A0 rfl) B5) ?_
 refine A4 ?_
 refine C3 (A0 rfl) ?_ ?_
 ·intro h10
  have k10 := of_decide_eq_true h10; try simp only [A9] at k10
  have hn : findC l k = none := Au4 k10
  have he : lastTime l k = 0 := by unfold lastTime; rw [hn]
  rw [he]
  refine A3 (A2 ?_)
  refine A1 rfl (B3 rfl B5) ?_
  refine A4 ?_
  refine C2 ?_
  exact G1 rfl (B8 rfl (by first | rfl | (refine congrArg AV.bool ?_; simp_all; done)))
 intro h10
 have k10 := of_decide_eq_false h10; try simp only [A9] at k10
 obtain ⟨p, c, hp, hc, hf⟩ := Au5 k10
 rw [hp]
 obtain ⟨v, hv, hlv⟩ := Ad9 (ho.2 c (G6 hc))
 have hcl := i5 (Nat.le_trans (V2 hc) hs)
 have hc1 := ho.2 c (G6 hc)
 have he : lastTime l k = v.Time := by unfold lastTime; rw [hf]; exact hlv
 rw [he]
 refine C8 (A3 ?_)
 refine I3 (by kernel_rfl) (by kernel_rfl) rfl ?_
 refine B1 rfl rfl (B7 rfl (A0 rfl)) ?_
 refine B1 rfl rfl (B7 rfl (A0 rfl)) ?_
 refine B1 rfl rfl (H5 rfl E2 F3 (A0 rfl) (A0 rfl) hc (by first | omega | (simp only [D1, A7, szR] at *; omega))) ?_
 refine B1 rfl rfl (R7 rfl F8 rfl M8 (A0 rfl) rfl) ?_
 refine B1 rfl rfl (L3 rfl (A0 rfl) P1 rfl) ?_
 refine B1 rfl rfl (B7 rfl (A0 rfl)) ?_
 refine B1 rfl rfl (B7 rfl (A0 rfl)) ?_
 refine B1 rfl rfl (H5 rfl E2 F3 (A0 rfl) (A0 rfl) hc (by first | omega | (simp only [D1, A7, szR] at *; omega))) ?_
 refine B1 rfl rfl (R7 rfl F8 rfl M8 (A0 rfl) rfl) ?_
 refine B1 rfl rfl (L3 rfl (A0 rfl) P1 rfl) ?_
 refine B1 rfl rfl (G5 rfl I7 (A0 rfl)) ?_
 refine B1 rfl rfl (Q5 rfl (A0 rfl) B5 (by first | omega | (simp only [D1, A7, szR] at *; omega))) ?_
 refine B1 rfl rfl (H5 rfl I7 L1 (A0 rfl) (A0 rfl) hv (by first | omega | (simp only [D1, A7, szR] at *; omega))) ?_
 refine B1 rfl rfl (R7 rfl J6 rfl B9 (A0 rfl) rfl) ?_
 refine B1 rfl rfl (L3 rfl (A0 rfl) C1 rfl) ?_
 refine B1 rfl rfl (B3 rfl (A0 rfl)) ?_
 refine P0 ?_
 refine C2 ?_
 exact G1 rfl (B8 rfl (by first | rfl | (refine congrArg AV.bool ?_; simp_all; done)))
end Go.Proofs.YtkegepoihkhihaaGreat

namespace Go.AV
section
variable {P : Program} {G : Nat → Prop} {n : Nat} {own : List Own} {o : Oper}
theorem AL4 {rest : List Own} : ∀ b, (fun _ : Nat => False) b → b ∈ rest.filterMap Own.blk := fun _ h => h.elim
theorem T0 {rest : List Own} : ∀ b, blksOf [] b → b ∈ rest.filterMap Own.blk := fun _ ⟨_, h, _⟩ => by simp at h
theorem gin_cons {q q' : Own} {ow rest : List Own} (i : Nat) (h : rest[i]? = some q') (hb : Own.blk q = Own.blk q') (k : ∀ b, blksOf ow b → b ∈ rest.filterMap Own.blk) : ∀ b, blksOf (q :: ow) b → b ∈ rest.filterMap Own.blk := fun b ⟨x, hx, hxb⟩ => by
  rcases List.mem_cons.1 hx with rfl | hx
  · exact List.mem_filterMap.2 ⟨q', G6 h, hb ▸ hxb⟩
  · exact k b ⟨x, hx, hxb⟩
theorem AH0 {sel rest : List Own} {w0 : World} {R0 R : RHeap} {w : World} (h : Core G w0 R0 (sel ++ rest) R w) (hG : ∀ b, G b → b ∈ rest.filterMap Own.blk) : Core G w0 R0 rest (lend sel w R) w := by
  have hl := S6 h
  refine ⟨h.os, h.tape, h.output, h.size, h.block, AN9 hl, fun b hb => ?_, fun q hq => ?_, fun q hq => h.fresh q (List.mem_append_right _ hq), (AF6 h).sep⟩
  · unfold lend
    cases hob : ownB sel b with
    | true =>
      obtain ⟨x, hx, hxb⟩ := c4 hob
      rcases h.fresh x (List.mem_append_left _ hx) b hxb with h1 | h1
      · omega
      · obtain ⟨y, hy, hyb⟩ := List.mem_filterMap.1 (hG b h1)
        exact absurd hyb (q7 h.sep hx hy hxb)
    | false => exact h.rold b hb
  · have hk := h.owned q (List.mem_append_right _ hq)
    refine Own.ok_keep hk (X7 hl) fun b hb => ⟨rfl, ?_⟩
    unfold lend
    cases hob : ownB sel b with
    | true =>
      obtain ⟨x, hx, hxb⟩ := c4 hob
      exact absurd hb (q7 h.sep hx hq hxb)
    | false => exact (Own.ok_blk hk hb).1
theorem W7 {env : List (Nat × AV)} {sel rest : List Own} {x y : AV} (is : List Nat) (t : Nat) (hp : pick own is = (sel, rest)) (ht : getv t env = some x) (hl : LendTo sel x y) (hG : ∀ b, G b → b ∈ rest.filterMap Own.blk) : Le G n ⟨own, env⟩ ⟨rest, (t, y) :: env⟩ := fun w0 R0 R a w ⟨h1, h2, h3⟩ => by
  have hc := Y8 h1 hp
  refine ⟨lend sel w R, X7 (S6 hc), AH0 hc hG, fun k z hz => ?_, h3⟩
  simp only [getv] at hz
  by_cases hk : t = k
  · subst hk
    simp [Nat.beq_refl] at hz
    rw [← hz]
    exact hl G w0 R0 R w _ (S6 hc) (h2 t x ht)
  · rw [j8 hk, cond_false] at hz
    exact z.mono (X7 (S6 hc)) (h2 k z hz)
theorem AT0 {ops : Array Oper} {rest : List Oper} {env : List (Nat × AV)} {K : AState → Prop} {d : Nat} {c : Bool} (hd : o.dst = some d) (hn : Nat.blt d n = true) (hg : GuardIs ops o (getv · env) c)
    (ht : c = true → ASeq P G n ops ({ o with guard := none } :: rest) ⟨own, env⟩ K) (hf : c = false → ASeq P G n ops rest ⟨own, (d, AV.is undef) :: env⟩ K) : ASeq P G n ops (o :: rest) ⟨own, env⟩ K := fun w0 R0 R a w hs => by
  have hgc := hg R a fun t _ y hy => hs.2.1 t y hy
  cases c with
  | true =>
    refine ⟨fun _ => ?_, fun hw => by rw [hgc] at hw; exact Bool.noConfusion hw⟩
    exact (ht rfl w0 R0 R a w hs).1 rfl
  | false =>
    refine ⟨fun hw => by rw [hgc] at hw; exact Bool.noConfusion hw, fun _ => ⟨_, R, hf rfl, RSub.refl _, ?_⟩⟩
    obtain ⟨h1, h2, h3, h4⟩ := hs
    refine ⟨h1, ?_, by rw [Q9]; exact h3, by rw [O7]; exact h4⟩
    have := V1 (d := o.dst) (x := AV.is undef) (v := undef) h2 (RSub.refl R) (fun q e => by rw [h3]; rw [hd] at e; injection e with e; subst e; exact Nat.blt_eq.mp hn) rfl
    rw [hd] at this ⊢
    exact this
theorem evif_no {E : EnvF} {p : Operand} {b : Bool} {x : AV} (h : b = false) : EvIf E p b x := fun hb => by rw [h] at hb; cases hb
def bandI (x y : Int) : Int := IntKind.u64.wrap (((BitVec.ofInt IntKind.u64.bits x &&& BitVec.ofInt IntKind.u64.bits y).toNat : Nat) : Int)
theorem Ag7 {Inv : List Own → Prop} {md : Region.Mode} {ops : Array Oper} {m i : Nat} {oi : Oper} {x : AV} {L : Array Bool → EnvF → List Own → Prop} (hi : ops[i]? = some oi)
    (hm0 : m = ops.size) (hin : i < m)
    (hdone : ∀ listed E W, L listed E W → ∀ j ∈ Region.ready md ops listed, m ≤ j) :
    ∀ (f : Nat) (listed : Array Bool) (E : EnvF) (W : List Own), HeadInv md ops m listed → Inv W →
      (∀ j oj, ops[j]? = some oj → j ≠ i → listed.getD j true = false → (∀ e ∈ oj.after, Region.binds md e = true → e.on ≠ i) → oi.apart ops oj = true) →
      i ∈ Region.ready md ops listed → (∀ W, Inv W → OpA P G n W ops oi E x) →
      wpAnyB P G n Inv md ops m L f (listed.setIfInBounds i true) (updF oi.dst x E) W → wpAnyB P G n Inv md ops m L (f + 1) listed E W := by
  have put : ∀ {K : EnvF → List Own → Prop} {E : EnvF} {W : List Own}, Inv W → (∀ W, Inv W → OpA P G n W ops oi E x) → K (updF oi.dst x E) W → qB P G n Inv ops i K E W := fun hW hy hK => by
    unfold qB
    simp only [hi]
    exact .inl ⟨x, hy _ hW, hK⟩
  intro f
  induction f with
  | zero =>
    intro listed E W inv hW _ hr hy H
    have hun := (mem_ready.1 hr).1
    refine ⟨fun h => (by rw [h] at hr; cases hr), fun j hj => ?_⟩
    have hjn : j < m := by
      rcases Nat.lt_or_ge j m with h | h
      · exact h
      · obtain ⟨_, oj, hoj, _⟩ := mem_ready.1 hj
        have := (Array.getElem?_eq_some_iff.1 hoj).1
        omega
    refine ⟨hjn, ?_⟩
    by_cases hji : j = i
    · subst hji; exact put hW hy H
    · have := hdone _ _ _ H j (ready_mono hj hji)
      omega
  | succ f ih =>
    intro listed E W inv hW hfree hr hy H
    have hun := (mem_ready.1 hr).1
    refine ⟨fun h => (by rw [h] at hr; cases hr), fun j hj => ?_⟩
    have hjn : j < m := by
      rcases Nat.lt_or_ge j m with h | h
      · exact h
      · obtain ⟨_, oj, hoj, _⟩ := mem_ready.1 hj
        have := (Array.getElem?_eq_some_iff.1 hoj).1
        omega
    refine ⟨hjn, ?_⟩
    by_cases hji : j = i
    · subst hji; exact put hW hy H
    · have h1 := (H.2 j (ready_mono hj hji)).2
      obtain ⟨hjun, oj, hoj, hall⟩ := mem_ready.1 hj
      have hnot : ∀ e ∈ oj.after, Region.binds md e = true → e.on ≠ i := fun e he hb heq => by
        have h1 := hall e he hb
        rw [heq, getD_both hun] at h1
        cases h1
      have h2 := qB_put hoj (hfree j oj hoj hji hjun hnot) hW hy h1
      have hfree' : ∀ k ok, ops[k]? = some ok → k ≠ i → (listed.setIfInBounds j true).getD k true = false →
          (∀ e ∈ ok.after, Region.binds md e = true → e.on ≠ i) → oi.apart ops ok = true := fun k ok hk hki hun hno => by
        refine hfree k ok hk hki ?_ hno
        by_cases hjk : j = k
        · subst hjk; exact hjun
        · rw [getD_set_ne true hjk] at hun; exact hun
      refine Au1 hW (fun E' W' hW' h3 => ih (listed.setIfInBounds j true) E' W' (inv.set hj hjn) hW' hfree' (ready_mono hr (Ne.symm hji)) h3.1 ?_) h2
      rw [Array.setIfInBounds_comm _ _ hji]
      exact h3.2
def treeZ (md : Region.Mode) (ops : Array Oper) (m : Nat) (ord : OT) : Bool :=
  decide (m = ops.size) && ord.deep m && ordT md ops (ops.size - m) m ord (Array.replicate ops.size false)
theorem l8 {Inv : List Own → Prop} {md : Region.Mode} {ops : Array Oper} {m g : Nat} {K : List (Nat × AV) → List Own → Prop} (hm0 : m = ops.size) :
    ∀ (l : OT) (f : Nat) (listed : Array Bool) (env : List (Nat × AV)) (W : List Own), l.deep f = true → HeadInv md ops m listed → Inv W →
    ordT md ops g m l listed = true → BT P G n Inv ops l env W K →
    wpAnyB P G n Inv md ops m (fun listed' E W => Region.seqB md ops g m listed' = true ∧ ∃ env', E = (getv · env') ∧ K env' W) f listed (getv · env) W
  | .nil, 0, listed, env, W, _, _, _, hB, h => ⟨hB, env, rfl, h⟩
  | .nil, _ + 1, _, _, _, hdp, _, _, _, _ => by cases hdp
  | .pure _ _, 0, _, _, _, hdp, _, _, _, _ => by cases hdp
  | .e1 _ _, 0, _, _, _, hdp, _, _, _, _ => by cases hdp
  | .e2 _ _ _ _, 0, _, _, _, hdp, _, _, _, _ => by cases hdp
  | .pure i l, f + 1, listed, env, W, hdp, inv, hW, hB, h => by
    simp only [ordT, Bool.and_eq_true] at hB
    obtain ⟨⟨⟨hr, hf⟩, hlt⟩, hB'⟩ := hB
    have hkn : i < m := Nat.blt_eq.mp hlt
    have hr' : i ∈ Region.ready md ops listed := by simpa using hr
    obtain ⟨o, ho, x, hx, hK⟩ := h
    refine Ag7 ho hm0 hkn (fun listed' E W hL => seqB_ready hL.1) f listed _ W inv hW (Region.free_spec ho hf) hr' hx ?_
    rw [← S5]
    exact l8 hm0 l f _ _ W hdp (inv.set hr' hkn) hW hB' hK
  | .e1 i l, f + 1, listed, env, W, hdp, inv, hW, hB, h => by
    simp only [ordT, Bool.and_eq_true, decide_eq_true_eq] at hB
    obtain ⟨⟨hr, hlt⟩, hB'⟩ := hB
    have hkn : i < m := Nat.blt_eq.mp hlt
    have hr' : i ∈ Region.ready md ops listed := by rw [hr]; simp
    obtain ⟨o, ho, hg, α, ok, W', V, h1, h2, h3⟩ := h
    refine ⟨fun h0 => (by rw [h0] at hr'; cases hr'), fun j hj => ?_⟩
    rw [hr] at hj
    have : j = i := by simpa using hj
    subst this
    refine ⟨hkn, ?_⟩
    unfold qB
    simp only [ho]
    refine .inr ⟨hg, α, ok, W', V, h1, h2, fun a ha => ?_⟩
    rw [← S5]
    exact l8 hm0 l f _ _ (W' a) hdp (inv.set hr' hkn) (h2 a ha) hB' (h3 a ha)
  | .e2 i l k u, f + 1, listed, env, W, hdp, inv, hW, hB, h => by
    simp only [ordT, Bool.and_eq_true, decide_eq_true_eq] at hB
    obtain ⟨⟨⟨⟨hr, hlt⟩, hlt2⟩, hB'⟩, hB2⟩ := hB
    simp only [OT.deep, Bool.and_eq_true] at hdp
    have hkn : i < m := Nat.blt_eq.mp hlt
    have hkn2 : k < m := Nat.blt_eq.mp hlt2
    have hr' : i ∈ Region.ready md ops listed := by rw [hr]; simp
    have hr2 : k ∈ Region.ready md ops listed := by rw [hr]; simp
    obtain ⟨⟨o, ho, hg, α, ok, W', V, h1, h2, h3⟩, ⟨o', ho', hg', α', ok', W'', V', h1', h2', h3'⟩⟩ := h
    refine ⟨fun h0 => (by rw [h0] at hr'; cases hr'), fun j hj => ?_⟩
    rw [hr] at hj
    simp only [List.mem_cons, List.not_mem_nil, or_false] at hj
    rcases hj with hj | hj
    · subst hj
      refine ⟨hkn, ?_⟩
      unfold qB
      simp only [ho]
      refine .inr ⟨hg, α, ok, W', V, h1, h2, fun a ha => ?_⟩
      rw [← S5]
      exact l8 hm0 l f _ _ (W' a) hdp.1 (inv.set hr' hkn) (h2 a ha) hB' (h3 a ha)
    · subst hj
      refine ⟨hkn2, ?_⟩
      unfold qB
      simp only [ho']
      refine .inr ⟨hg', α', ok', W'', V', h1', h2', fun a ha => ?_⟩
      rw [← S5]
      exact l8 hm0 u f _ _ (W'' a) hdp.2 (inv.set hr2 hkn2) (h2' a ha) hB2 (h3' a ha)
theorem AT1 {id : Nat} {l : List Oper} {Q : Exit → AState → Prop} {env : List (Nat × AV)} {own : List Own} (base : List Own) (m : Nat) (ord : OT) (hm : P.follows .mixedOrders = true) (hB : treeZ .any l.toArray m ord = true) (hd : dstOk n l = true) (hb : InvX base own)
  (h : BT P G n (InvX base) l.toArray ord env own (fun env' W => ASeq P G n l.toArray (l.drop m) ⟨W, env'⟩ (Q .normal))) : AWP P G n (.region id l.toArray true) Q ⟨own, env⟩ := fun w0 R0 R a w ⟨h1, h2, h3, h4⟩ => by
 simp only [treeZ, Bool.and_eq_true, decide_eq_true_eq] at hB
 obtain ⟨⟨hm0, hdp⟩, hlex⟩ := hB
 have hn' : m = l.length := by simpa using hm0
 have hdl : (l.drop m).length = l.toArray.size - m := by simp
 have inv0 : HeadInv .any l.toArray m (Array.replicate l.toArray.size false) :=
  ⟨by simp, fun j oj _ hl => (by rw [getD_replicate_false] at hl; cases hl), fun t _ ht => getD_in (by simpa using ht) (getD_replicate_false _ _)⟩
 have H := l8 (g := l.toArray.size - m) hm0 ord m _ env own hdp inv0 hb hlex h
 refine wp_region_any hm ?_
 have := Z3 (w0 := w0) (R0 := R0) (R00 := R) (g := l.toArray.size - m) (Q' := fun e a' w' => ∃ s' R', Q e s' ∧ RSub R R' ∧ St G n w0 R0 s' R' a' w') (fun i o ho d e => j9 hd i o (by simpa using ho) d e) (fun listed E W R' a' w' g1 g2 g3 g4 g5 hL => by
  obtain ⟨hL1, env', rfl, hL2⟩ := hL
  have := wpAny_of_seq (P := P) (md := .any) (Q' := fun e a' w' => ∃ s' R', Q e s' ∧ RSub R R' ∧ St G n w0 R0 s' R' a' w') (l.drop m) m listed a' w' (fun j => by simp [List.getElem?_drop]) (by rw [hdl]; exact hL1)
   (V6 (R00 := R) (K := Q .normal) (fun s' R' a w q r1 r2 => ⟨s', R', q, r1, r2⟩) _ (⟨W, env'⟩ : AState) R' a' w' g1 ⟨g2, g3, g4, g5⟩ hL2)
  rwa [hdl] at this) _ _ _ own R a _ (RSub.refl _) (p6 h1) h2 h3 h4 H
 rw [show m + (l.toArray.size - m) = l.toArray.size by omega] at this
 exact this
end
end Go.AV

namespace Go.AV
section
variable {P : Program} {G : Nat → Prop} {n : Nat} {own : List Own} {o : Oper}
def OwnC (sel : List Own) : Own → Own → Prop
  | .box b t cs, .box b' t' cs' => b = b' ∧ t = t' ∧ LendC sel cs cs'
  | .arr v t sz es, .arr v' t' sz' es' => v = v' ∧ t = t' ∧ sz = sz' ∧ LendE sel es es'
  | .frz b t cs, .frz b' t' cs' => b = b' ∧ t = t' ∧ LendC sel cs cs'
  | .tab T, .tab T' => T = T'
  | _, _ => False
def OwnsC (sel own own' : List Own) : Prop := own.length = own'.length ∧ ∀ (i : Nat) (q q' : Own), own[i]? = some q → own'[i]? = some q' → OwnC sel q q'
theorem oc_blk {sel : List Own} {q q' : Own} (h : OwnC sel q q') : Own.blk q = Own.blk q' := by
  cases q <;> cases q' <;> unfold OwnC at h
  · exact congrArg some h.1
  · exact h.elim
  · exact h.elim
  · exact h.elim
  · exact h.elim
  · exact congrArg Value.ownBlock h.1
  · exact h.elim
  · exact h.elim
  · exact h.elim
  · exact h.elim
  · exact congrArg some h.1
  · exact h.elim
  · exact h.elim
  · exact h.elim
  · exact h.elim
  · rfl
theorem oc_map {sel a b : List Own} (h : OwnsC sel a b) : a.map Own.blk = b.map Own.blk := by
  refine List.ext_getElem? fun i => ?_
  rw [List.getElem?_map, List.getElem?_map]
  cases ha : a[i]? with
  | none =>
    have : b[i]? = none := by rw [List.getElem?_eq_none_iff] at ha ⊢; rw [← h.1]; exact ha
    rw [this]
  | some q =>
    have hi : i < b.length := by rw [← h.1]; exact (List.getElem?_eq_some_iff.1 ha).1
    rw [List.getElem?_eq_getElem hi]
    exact congrArg some (oc_blk (h.2 i q _ ha (List.getElem?_eq_getElem hi)))
theorem oc_fm {sel a b : List Own} (h : OwnsC sel a b) : a.filterMap Own.blk = b.filterMap Own.blk := by
  have := congrArg (List.filterMap id) (oc_map h)
  rwa [List.filterMap_map, List.filterMap_map] at this
theorem AL5 {sel : List Own} {xs ys : List AV} {w0 : World} {R0 R : RHeap} {w : World} {vs : List Value} (hc : Core G w0 R0 sel R w) (h : DenC R vs xs) (k : LendC sel xs ys) : DenC (lend sel w R) vs ys :=
  ⟨h.1.trans k.1, fun i v y hv hy => by
    have hi : i < xs.length := by rw [k.1]; exact (List.getElem?_eq_some_iff.1 hy).1
    have hx := List.getElem?_eq_getElem hi
    obtain ⟨h1, h2⟩ := h.2 i v _ hv hx
    exact ⟨k.2 i _ y hx hy G w0 R0 R w v hc h1, h2⟩⟩
theorem Ay1 {sel rest rest' : List Own} {w0 : World} {R0 R : RHeap} {w : World} (h : Core G w0 R0 (sel ++ rest) R w) (hG : ∀ b, G b → b ∈ rest.filterMap Own.blk) (hl : OwnsC sel rest rest') : Core G w0 R0 rest' (lend sel w R) w := by
  have hb := AH0 h hG
  have hs := S6 h
  refine ⟨hb.os, hb.tape, hb.output, hb.size, hb.block, hb.rle, hb.rold, fun q' hq' => ?_, fun q' hq' b hqb => ?_, ?_⟩
  · obtain ⟨i, hi⟩ := List.getElem?_of_mem hq'
    have hir : i < rest.length := by rw [hl.1]; exact (List.getElem?_eq_some_iff.1 hi).1
    have hr := List.getElem?_eq_getElem hir
    have hm := G6 hr
    have hoc := hl.2 i _ q' hr hi
    have k1 := hb.owned _ hm
    have k2 := h.owned _ (List.mem_append_right _ hm)
    revert hoc k1 k2
    generalize rest[i] = q
    intro hoc k1 k2
    cases q <;> cases q' <;> unfold OwnC at hoc
    · obtain ⟨rfl, rfl, hc⟩ := hoc
      obtain ⟨_, vs, hv, hd⟩ := k2
      exact ⟨k1.1, vs, hv, AL5 hs hd hc⟩
    · exact hoc.elim
    · exact hoc.elim
    · exact hoc.elim
    · exact hoc.elim
    · obtain ⟨rfl, rfl, rfl, hc⟩ := hoc
      obtain ⟨_, hlen, xs, hx, hd⟩ := k2
      refine ⟨k1.1, fun e he => ?_, xs, ?_, AL5 hs hd (AY8 hc)⟩
      · obtain ⟨j, hj⟩ := List.getElem?_of_mem he
        have hje := List.getElem?_eq_getElem (show j < _ from hc.1.symm ▸ (List.getElem?_eq_some_iff.1 hj).1)
        rw [← (hc.2 j _ e hje hj).1]
        exact hlen _ (G6 hje)
      · rw [← hc.1]; exact hx
    · exact hoc.elim
    · exact hoc.elim
    · exact hoc.elim
    · exact hoc.elim
    · obtain ⟨rfl, rfl, hc⟩ := hoc
      obtain ⟨_, vs, hv, hd⟩ := k2
      exact ⟨k1.1, vs, hv, AL5 hs hd hc⟩
    · exact hoc.elim
    · exact hoc.elim
    · exact hoc.elim
    · exact hoc.elim
    · exact hoc ▸ k1
  · have hm : (some b) ∈ rest'.map Own.blk := List.mem_map.2 ⟨q', hq', hqb⟩
    rw [← oc_map hl] at hm
    obtain ⟨q, hq, hqb2⟩ := List.mem_map.1 hm
    exact hb.fresh q hq b hqb2
  · rw [← oc_fm hl]; exact hb.sep
theorem oc_refl {sel : List Own} (q : Own) : OwnC sel q q := by
  cases q with
  | box b t cs => exact ⟨rfl, rfl, AO2⟩
  | arr v t sz es => exact ⟨rfl, rfl, rfl, L7⟩
  | frz b t cs => exact ⟨rfl, rfl, AO2⟩
  | tab T => exact rfl
theorem oc_set {sel l : List Own} {i : Nat} {q q' : Own} (hi : l[i]? = some q) (hc : OwnC sel q q') : OwnsC sel l (l.set i q') := ⟨by simp, fun j x y hx hy => by
  by_cases h : i = j
  · subst h
    rw [List.getElem?_set_self (List.getElem?_eq_some_iff.1 hi).1] at hy
    rw [hi] at hx
    injection hx with hx; injection hy with hy; subst hx; subst hy; exact hc
  · rw [List.getElem?_set_ne h, hx] at hy
    injection hy with hy; subst hy; exact oc_refl _⟩
theorem AT2 {env : List (Nat × AV)} {sel rest : List Own} {q : Own} (is : List Nat) (i : Nat) (q' : Own) (hp : pick own is = (sel, rest)) (hi : rest[i]? = some q) (hc : OwnC sel q q') (hG : ∀ b, G b → b ∈ rest.filterMap Own.blk) : Le G n ⟨own, env⟩ ⟨rest.set i q', env⟩ := fun w0 R0 R a w ⟨h1, h2, h3⟩ => by
  have hk := Y8 h1 hp
  exact ⟨lend sel w R, X7 (S6 hk), Ay1 hk hG (oc_set hi hc), fun t z hz => z.mono (X7 (S6 hk)) (h2 t z hz), h3⟩
section
variable {T X : Type} {ocs : T → X → List AV} {cs : T → List AV} {ow : T → X → List Own}
end
end
end Go.AV

namespace Go.AV
section
variable {P : Program} {G : Nat → Prop} {n : Nat} {own : List Own} {o : Oper} {E : EnvF}
@[reducible] def byteC (b : UInt8) : List AV := [AV.ik .u8 b.toNat]
end
end Go.AV

namespace Go.Proofs.YtkegepoihkhihaaGreat
open Go Go.AV Go.M
attribute [local irreducible] OpW OpA OpS AWP FSpec ESpec RetOk RvDen Le Ev GuardIs
end Go.Proofs.YtkegepoihkhihaaGreat

namespace Go.M
open Go.AV
end Go.M
namespace Go.Proofs.YtkegepoihkhihaaGreat
open Go Go.AV Go.M
attribute [local irreducible] OpW OpA OpS AWP FSpec ESpec GSpec OpE RetOk RetOkG RvDen Le Ev GuardIs SrcIs Int.tmod Int.tdiv IntKind.wrap
end Go.Proofs.YtkegepoihkhihaaGreat

namespace Go.M
open Go.AV
end Go.M
namespace Go.Proofs.YtkegepoihkhihaaGreat
open Go Go.AV Go.M
attribute [local irreducible] OpW OpA OpS AWP FSpec ESpec GSpec OpE RetOk RetOkG RvDen Le Ev GuardIs SrcIs Int.tmod Int.tdiv IntKind.wrap
end Go.Proofs.YtkegepoihkhihaaGreat

namespace Go.M
open Go.AV
end Go.M
namespace Go.Proofs.YtkegepoihkhihaaGreat
open Go Go.AV Go.M
attribute [local irreducible] OpW OpA OpS AWP FSpec ESpec GSpec OpE RetOk RetOkG RvDen Le Ev GuardIs SrcIs Int.tmod Int.tdiv IntKind.wrap
end Go.Proofs.YtkegepoihkhihaaGreat

set_option maxHeartbeats 1000000
namespace Go.M
open Go.AV
end Go.M
namespace Go.Proofs.YtkegepoihkhihaaGreat
open Go Go.AV Go.M
attribute [local irreducible] OpW OpA OpS AWP FSpec ESpec GSpec OpE RetOk RetOkG RvDen Le Ev GuardIs SrcIs
end Go.Proofs.YtkegepoihkhihaaGreat

namespace Go.M
open Go.AV
structure TCur where
  p : Nat
  seed : Int
def bytesI (l : List Int) : AV := AV.list 1 (l.map fun x => [AV.ik .u8 x])
def ByteL (code : List Int) : Prop := ∀ x ∈ code, 0 ≤ x ∧ x ≤ 255
theorem byteL_of {l : List Int} (h : ∀ x ∈ l, (Lit.int .u8 x).wf = true) : ByteL l := fun x hx => by
  have := h x hx
  simp only [Lit.wf, IntKind.min, IntKind.max, IntKind.signed, IntKind.bits] at this
  simp at this
  omega
theorem wrapS {x : Int} (h : 0 ≤ x ∧ x ≤ 255) : IntKind.i64.wrap x = x := in64 (by omega)
end Go.M

namespace Go.Proofs.YtkegepoihkhihaaGreat
open Go Go.AV Go.M
attribute [local irreducible] OpW OpA OpS AWP FSpec ESpec GSpec OpE RetOk RetOkG RvDen Le Ev GuardIs SrcIs Int.tmod IntKind.wrap bandI
end Go.Proofs.YtkegepoihkhihaaGreat

namespace Go.Proofs.YtkegepoihkhihaaGreat
open Go Go.AV Go.M
attribute [local irreducible] OpW OpA OpS AWP FSpec ESpec GSpec OpE RetOk RetOkG RvDen Le Ev GuardIs SrcIs
end Go.Proofs.YtkegepoihkhihaaGreat

namespace Go.Proofs.YtkegepoihkhihaaGreat
open Go Go.AV Go.M
attribute [local irreducible] OpW OpA OpS AWP FSpec ESpec GSpec OpE RetOk RetOkG RvDen Le Ev GuardIs SrcIs Int.tmod Int.tdiv IntKind.wrap bandI
end Go.Proofs.YtkegepoihkhihaaGreat

namespace Go.Proofs.YtkegepoihkhihaaGreat
open Go Go.AV Go.M
attribute [local irreducible] OpW OpA OpS AWP FSpec ESpec GSpec OpE RetOk RetOkG RvDen Le Ev GuardIs SrcIs Int.tmod Int.tdiv IntKind.wrap
theorem p5 (n : Int) : FSpec Tryz.prog 93 [AV.int n] (AV.bool (isTxnR n)) := by
 refine D8 Tryz.func93 rfl Tryz.ntmps93 rfl ?_
 refine A3 (A2 ?_)
 refine A1 rfl (B3 rfl F0) ?_
 refine A4 (A3 (A2 ?_))
 refine A5 rfl ?_
 refine A1 rfl (D7 rfl Tryz.call82 rfl (U8 _ _ _) (A8 (A0 rfl) (A8 B5 (A8 B5 C6)))) ?_
 refine B4 rfl ?_
 refine A4 ?_
 refine C2 ?_
 exact G1 rfl (B8 rfl (by rfl))
theorem Ae1 {r : TRec} (hs : r.size ≤ 1048576) : (∀ k ∈ r.Reads, k.length ≤ 4611686018427387904) ∧ sizeL TWrite.size r.Writes ≤ 1048576 ∧ r.Reads.length ≤ 1048576 ∧ r.Writes.length ≤ 1048576 := by
  unfold TRec.size at hs
  have h1 := M9 (f := fun x : Str => x.length) (l := r.Reads)
  have h2 := M9 (f := TWrite.size) (l := r.Writes)
  exact ⟨fun k hk => by have := j5 (f := fun x : Str => x.length) hk; omega, by omega, by omega, by omega⟩
theorem Al7 (r : TRec) (hs : r.size ≤ 1048576) : FSpec Tryz.prog 136 [AV.agg r.cs] (AV.bool (goodRec r)) := by
 obtain ⟨hr1, hr2, hr3, hr4⟩ := Ae1 hs
 refine D8 Tryz.func136 rfl Tryz.ntmps136 rfl ?_
 refine A3 (A2 ?_)
 refine L6 rfl rfl rfl rfl (A0 rfl) ?_
 intro b1
 refine A1 rfl (B3 rfl F0) ?_
 refine A4 (A3 (A2 ?_))
 refine A1 rfl (B2 3 rfl C0 rfl B9 (A0 rfl) rfl) ?_
 refine A1 rfl (B0 0 rfl (A0 rfl) rfl C1 rfl) ?_
 refine A1 rfl (R6 rfl (A0 rfl) B5) ?_
 refine A5 rfl ?_
 refine C4 rfl (fun hc => B2 4 rfl C0 rfl N3 (A0 rfl) rfl) ?_
 refine C4 rfl (fun hc => B0 0 rfl (A6 rfl hc) rfl P7 rfl) ?_
 refine C4 rfl (fun hc => G5 rfl E5 (A6 rfl hc)) ?_
 refine C4 rfl (fun hc => R6 rfl (A6 rfl hc) B5) ?_
 refine A1 rfl (G8 rfl (A0 rfl) (F1 rfl)) ?_
 refine A5 rfl ?_
 refine C4 rfl (fun hc => B2 5 rfl C0 rfl K4 (A0 rfl) rfl) ?_
 refine C4 rfl (fun hc => B0 0 rfl (A6 rfl hc) rfl L2 rfl) ?_
 refine C4 rfl (fun hc => G5 rfl F7 (A6 rfl hc)) ?_
 refine C4 rfl (fun hc => R6 rfl (A6 rfl hc) B5) ?_
 refine A1 rfl (G8 rfl (A0 rfl) (F1 rfl)) ?_
 refine B4 rfl ?_
 refine A4 (A3 (A3 (A2 ?_)))
 refine A1 rfl (B2 0 rfl C0 rfl B9 (A0 rfl) rfl) ?_
 refine A1 rfl (B0 0 rfl (A0 rfl) rfl C1 rfl) ?_
 refine A4 (D0 (A3 (A2 ?_)))
 refine A1 rfl (R6 rfl (A0 rfl) B5) ?_
 refine B4 rfl ?_
 refine A4 ?_
 refine C3 (A0 rfl) ?_ ?_
 ·intro h21
  have k21 := S3 h21; try simp only [A9] at k21
  refine A3 (A2 ?_)
  refine A1 rfl (B2 1 rfl C0 rfl B9 (A0 rfl) rfl) ?_
  refine A1 rfl (B0 0 rfl (A0 rfl) rfl C1 rfl) ?_
  refine A1 rfl (D7 rfl Tryz.call93 rfl (p5 _) (A8 (A0 rfl) C6)) ?_
  refine A5 rfl ?_
  refine C4 rfl (fun hc => B2 2 rfl C0 rfl B9 (A0 rfl) rfl) ?_
  refine C4 rfl (fun hc => B0 0 rfl (A6 rfl hc) rfl C1 rfl) ?_
  refine C4 rfl (fun hc => D7 rfl Tryz.call111 rfl (X9 _) (A8 (A6 rfl hc) C6)) ?_
  refine A1 rfl (G8 rfl (A0 rfl) (F1 rfl)) ?_
  refine A5 rfl ?_
  refine C4 rfl (fun hc => B2 3 rfl C0 rfl B9 (A0 rfl) rfl) ?_
  refine C4 rfl (fun hc => B0 0 rfl (A6 rfl hc) rfl C1 rfl) ?_
  refine C4 rfl (fun hc => D7 rfl Tryz.call82 rfl (U8 _ _ _) (A8 (A6 rfl hc) (A8 B5 (A8 B5 C6)))) ?_
  refine A1 rfl (G8 rfl (A0 rfl) (F1 rfl)) ?_
  refine A5 rfl ?_
  refine C4 rfl (fun hc => B2 4 rfl C0 rfl N3 (A0 rfl) rfl) ?_
  refine C4 rfl (fun hc => B0 0 rfl (A6 rfl hc) rfl P7 rfl) ?_
  refine C4 rfl (fun hc => G5 rfl E5 (A6 rfl hc)) ?_
  refine C4 rfl (fun hc => S1 rfl (A6 rfl hc) B5) ?_
  refine A1 rfl (G8 rfl (A0 rfl) (F1 rfl)) ?_
  refine A5 rfl ?_
  refine C4 rfl (fun hc => B2 4 rfl C0 rfl N3 (A0 rfl) rfl) ?_
  refine C4 rfl (fun hc => B0 0 rfl (A6 rfl hc) rfl P7 rfl) ?_
  refine C4 rfl (fun hc => D7 rfl Tryz.call119 rfl (n8 r.Reads hr1) (A8 (A6 rfl hc) C6)) ?_
  refine A1 rfl (G8 rfl (A0 rfl) (F1 rfl)) ?_
  refine A5 rfl ?_
  refine C4 rfl (fun hc => B2 5 rfl C0 rfl K4 (A0 rfl) rfl) ?_
  refine C4 rfl (fun hc => B0 0 rfl (A6 rfl hc) rfl L2 rfl) ?_
  refine C4 rfl (fun hc => G5 rfl F7 (A6 rfl hc)) ?_
  refine C4 rfl (fun hc => S1 rfl (A6 rfl hc) B5) ?_
  refine A1 rfl (G8 rfl (A0 rfl) (F1 rfl)) ?_
  refine A5 rfl ?_
  refine C4 rfl (fun hc => B2 5 rfl C0 rfl K4 (A0 rfl) rfl) ?_
  refine C4 rfl (fun hc => B0 0 rfl (A6 rfl hc) rfl L2 rfl) ?_
  refine C4 rfl (fun hc => D7 rfl Tryz.call185 rfl (AW2 r.Writes (by omega)) (A8 (A6 rfl hc) C6)) ?_
  refine A1 rfl (G8 rfl (A0 rfl) (F1 rfl)) ?_
  refine A5 rfl ?_
  refine C4 rfl (fun hc => B2 4 rfl C0 rfl N3 (A0 rfl) rfl) ?_
  refine C4 rfl (fun hc => B0 0 rfl (A6 rfl hc) rfl P7 rfl) ?_
  refine C4 rfl (fun hc => G5 rfl E5 (A6 rfl hc)) ?_
  refine C4 rfl (fun hc => B2 5 rfl C0 rfl K4 (A0 rfl) rfl) ?_
  refine C4 rfl (fun hc => B0 0 rfl (A6 rfl hc) rfl L2 rfl) ?_
  refine C4 rfl (fun hc => G5 rfl F7 (A6 rfl hc)) ?_
  refine C4 rfl (fun hc => F6 rfl (A6 rfl hc) (A6 rfl hc) (by first | omega | ((try simp only [D1, A7, szR] at *); omega) | (have hc2 := hc; simp only [M7, beq_iff_eq, bne_iff_ne, A9, E6] at hc2; omega))) ?_
  refine C4 rfl (fun hc => N6 rfl (A6 rfl hc) B5) ?_
  refine A1 rfl (G8 rfl (A0 rfl) (F1 rfl)) ?_
  refine A5 rfl ?_
  refine C4 rfl (fun hc => B2 6 rfl C0 rfl K2 (A0 rfl) rfl) ?_
  refine C4 rfl (fun hc => B0 0 rfl (A6 rfl hc) rfl K7 rfl) ?_
  refine C4 rfl (fun hc => K3 rfl (A6 rfl hc)) ?_
  refine A1 rfl (G8 rfl (A0 rfl) (F1 rfl)) ?_
  refine B4 rfl ?_
  refine A4 ?_
  refine C2 ?_
  exact G1 rfl (B8 rfl (by first | (exfalso; omega) | exact congrArg AV.bool (by unfold goodRec good1 good2 good4 bareR; simp [*])))
 intro h21
 have k21 := S2 h21; try simp only [A9] at k21
 refine A3 (A3 (A2 ?_))
 refine A1 rfl (R6 rfl (A0 rfl) B5) ?_
 refine B4 rfl ?_
 refine A4 ?_
 refine C3 (A0 rfl) ?_ ?_
 ·intro h73
  have k73 := S3 h73; try simp only [A9] at k73
  refine C8 ?_
  refine C3 (A0 rfl) ?_ ?_
  ·intro h73
   have k73 := S3 h73; try simp only [A9] at k73
   refine A3 (A2 ?_)
   refine A5 rfl ?_
   refine A5 rfl ?_
   refine C4 rfl (fun hc => B2 1 rfl C0 rfl B9 (A0 rfl) rfl) ?_
   refine C4 rfl (fun hc => B0 0 rfl (A6 rfl hc) rfl C1 rfl) ?_
   refine C4 rfl (fun hc => D7 rfl Tryz.call93 rfl (p5 _) (A8 (A6 rfl hc) C6)) ?_
   refine A1 rfl (G8 rfl (A0 rfl) (F1 rfl)) ?_
   refine A5 rfl ?_
   refine C4 rfl (fun hc => B2 6 rfl C0 rfl K2 (A0 rfl) rfl) ?_
   refine C4 rfl (fun hc => B0 0 rfl (A6 rfl hc) rfl K7 rfl) ?_
   refine C4 rfl (fun hc => B7 rfl (A6 rfl hc)) ?_
   refine H6 rfl rfl (D6 rfl rfl rfl) (fun hc => B2 2 rfl C0 rfl B9 (A0 rfl) rfl) ?_
   refine H6 rfl rfl (D6 rfl rfl rfl) (fun hc => B0 0 rfl (A6 rfl hc) rfl C1 rfl) ?_
   refine H6 rfl rfl (D6 rfl rfl rfl) (fun hc => D7 rfl Tryz.call111 rfl (X9 _) (A8 (A6 rfl hc) C6)) ?_
   refine C4 rfl (fun hc => G8 rfl (A6 rfl hc) (O5 rfl hc)) ?_
   refine C4 rfl (fun hc => B7 rfl (A6 rfl hc)) ?_
   refine H6 rfl rfl (N1 rfl rfl rfl) (fun hc => B2 6 rfl C0 rfl K2 (A0 rfl) rfl) ?_
   refine H6 rfl rfl (N1 rfl rfl rfl) (fun hc => B0 0 rfl (A6 rfl hc) rfl K7 rfl) ?_
   refine H6 rfl rfl (N1 rfl rfl rfl) (fun hc => K3 rfl (A6 rfl hc)) ?_
   refine H6 rfl rfl (N1 rfl rfl rfl) (fun hc => B7 rfl (A6 rfl hc)) ?_
   refine H6 rfl rfl (D6 rfl rfl rfl) (fun hc => B2 2 rfl C0 rfl B9 (A0 rfl) rfl) ?_
   refine H6 rfl rfl (D6 rfl rfl rfl) (fun hc => B0 0 rfl (A6 rfl hc) rfl C1 rfl) ?_
   refine H6 rfl rfl (D6 rfl rfl rfl) (fun hc => R6 rfl (A6 rfl hc) B5) ?_
   refine H6 rfl rfl (N1 rfl rfl rfl) (fun hc => G8 rfl (A6 rfl hc) (O5 rfl hc)) ?_
   refine C4 rfl (fun hc => P9 rfl (A6 rfl hc) (O5 rfl hc)) ?_
   refine A1 rfl (G8 rfl (A0 rfl) (F1 rfl)) ?_
   refine B4 rfl ?_
   refine A4 ?_
   refine C2 ?_
   exact G1 rfl (B8 rfl (by first | (exfalso; omega) | exact congrArg AV.bool (by unfold goodRec good1 good2 good4 bareR; simp [*])))
  intro h73
  have k73 := S2 h73; try simp only [A9] at k73
  refine A3 (A2 ?_)
  refine A1 rfl (R6 rfl (A0 rfl) B5) ?_
  refine B4 rfl ?_
  refine A4 ?_
  refine C3 (A0 rfl) ?_ ?_
  ·intro h101
   have k101 := S3 h101; try simp only [A9] at k101
   refine A3 (A2 ?_)
   refine A5 rfl ?_
   refine A5 rfl ?_
   refine C4 rfl (fun hc => B2 1 rfl C0 rfl B9 (A0 rfl) rfl) ?_
   refine C4 rfl (fun hc => B0 0 rfl (A6 rfl hc) rfl C1 rfl) ?_
   refine C4 rfl (fun hc => R6 rfl (A6 rfl hc) B5) ?_
   refine A1 rfl (G8 rfl (A0 rfl) (F1 rfl)) ?_
   refine A5 rfl ?_
   refine C4 rfl (fun hc => B2 2 rfl C0 rfl B9 (A0 rfl) rfl) ?_
   refine C4 rfl (fun hc => B0 0 rfl (A6 rfl hc) rfl C1 rfl) ?_
   refine C4 rfl (fun hc => D7 rfl Tryz.call111 rfl (X9 _) (A8 (A6 rfl hc) C6)) ?_
   refine A1 rfl (G8 rfl (A0 rfl) (F1 rfl)) ?_
   refine A5 rfl ?_
   refine C4 rfl (fun hc => B2 6 rfl C0 rfl K2 (A0 rfl) rfl) ?_
   refine C4 rfl (fun hc => B0 0 rfl (A6 rfl hc) rfl K7 rfl) ?_
   refine C4 rfl (fun hc => K3 rfl (A6 rfl hc)) ?_
   refine A1 rfl (G8 rfl (A0 rfl) (F1 rfl)) ?_
   refine B4 rfl ?_
   refine A4 ?_
   refine C2 ?_
   exact G1 rfl (B8 rfl (by first | (exfalso; omega) | exact congrArg AV.bool (by unfold goodRec good1 good2 good4 bareR; simp [*])))
  intro h101
  have k101 := S2 h101; try simp only [A9] at k101
  refine C8 (A3 (A2 ?_))
  refine A1 rfl (B3 rfl F0) ?_
  refine A4 ?_
  refine C2 ?_
  exact G1 rfl (B8 rfl (by first | (exfalso; omega) | exact congrArg AV.bool (by unfold goodRec good1 good2 good4 bareR; simp [*])))
 intro h73
 have k73 := S2 h73; try simp only [A9] at k73
 refine A2 ?_
 refine A1 rfl (R6 rfl (A0 rfl) B5) ?_
 refine B4 rfl ?_
 refine A4 ?_
 refine C3 (A0 rfl) ?_ ?_
 ·intro h73
  have k73 := S3 h73; try simp only [A9] at k73
  refine A3 (A2 ?_)
  refine A5 rfl ?_
  refine A5 rfl ?_
  refine C4 rfl (fun hc => B2 1 rfl C0 rfl B9 (A0 rfl) rfl) ?_
  refine C4 rfl (fun hc => B0 0 rfl (A6 rfl hc) rfl C1 rfl) ?_
  refine C4 rfl (fun hc => D7 rfl Tryz.call93 rfl (p5 _) (A8 (A6 rfl hc) C6)) ?_
  refine A1 rfl (G8 rfl (A0 rfl) (F1 rfl)) ?_
  refine A5 rfl ?_
  refine C4 rfl (fun hc => B2 6 rfl C0 rfl K2 (A0 rfl) rfl) ?_
  refine C4 rfl (fun hc => B0 0 rfl (A6 rfl hc) rfl K7 rfl) ?_
  refine C4 rfl (fun hc => B7 rfl (A6 rfl hc)) ?_
  refine H6 rfl rfl (D6 rfl rfl rfl) (fun hc => B2 2 rfl C0 rfl B9 (A0 rfl) rfl) ?_
  refine H6 rfl rfl (D6 rfl rfl rfl) (fun hc => B0 0 rfl (A6 rfl hc) rfl C1 rfl) ?_
  refine H6 rfl rfl (D6 rfl rfl rfl) (fun hc => D7 rfl Tryz.call111 rfl (X9 _) (A8 (A6 rfl hc) C6)) ?_
  refine C4 rfl (fun hc => G8 rfl (A6 rfl hc) (O5 rfl hc)) ?_
  refine C4 rfl (fun hc => B7 rfl (A6 rfl hc)) ?_
  refine H6 rfl rfl (N1 rfl rfl rfl) (fun hc => B2 6 rfl C0 rfl K2 (A0 rfl) rfl) ?_
  refine H6 rfl rfl (N1 rfl rfl rfl) (fun hc => B0 0 rfl (A6 rfl hc) rfl K7 rfl) ?_
  refine H6 rfl rfl (N1 rfl rfl rfl) (fun hc => K3 rfl (A6 rfl hc)) ?_
  refine H6 rfl rfl (N1 rfl rfl rfl) (fun hc => B7 rfl (A6 rfl hc)) ?_
  refine H6 rfl rfl (D6 rfl rfl rfl) (fun hc => B2 2 rfl C0 rfl B9 (A0 rfl) rfl) ?_
  refine H6 rfl rfl (D6 rfl rfl rfl) (fun hc => B0 0 rfl (A6 rfl hc) rfl C1 rfl) ?_
  refine H6 rfl rfl (D6 rfl rfl rfl) (fun hc => R6 rfl (A6 rfl hc) B5) ?_
  refine H6 rfl rfl (N1 rfl rfl rfl) (fun hc => G8 rfl (A6 rfl hc) (O5 rfl hc)) ?_
  refine C4 rfl (fun hc => P9 rfl (A6 rfl hc) (O5 rfl hc)) ?_
  refine A1 rfl (G8 rfl (A0 rfl) (F1 rfl)) ?_
  refine B4 rfl ?_
  refine A4 ?_
  refine C2 ?_
  exact G1 rfl (B8 rfl (by first | (exfalso; omega) | exact congrArg AV.bool (by unfold goodRec good1 good2 good4 bareR; simp [*])))
 intro h73
 have k73 := S2 h73; try simp only [A9] at k73
 refine A3 (A2 ?_)
 refine A1 rfl (R6 rfl (A0 rfl) B5) ?_
 refine B4 rfl ?_
 refine A4 ?_
 refine C3 (A0 rfl) ?_ ?_
 ·intro h101
  have k101 := S3 h101; try simp only [A9] at k101
  refine A3 (A2 ?_)
  refine A5 rfl ?_
  refine A5 rfl ?_
  refine C4 rfl (fun hc => B2 1 rfl C0 rfl B9 (A0 rfl) rfl) ?_
  refine C4 rfl (fun hc => B0 0 rfl (A6 rfl hc) rfl C1 rfl) ?_
  refine C4 rfl (fun hc => R6 rfl (A6 rfl hc) B5) ?_
  refine A1 rfl (G8 rfl (A0 rfl) (F1 rfl)) ?_
  refine A5 rfl ?_
  refine C4 rfl (fun hc => B2 2 rfl C0 rfl B9 (A0 rfl) rfl) ?_
  refine C4 rfl (fun hc => B0 0 rfl (A6 rfl hc) rfl C1 rfl) ?_
  refine C4 rfl (fun hc => D7 rfl Tryz.call111 rfl (X9 _) (A8 (A6 rfl hc) C6)) ?_
  refine A1 rfl (G8 rfl (A0 rfl) (F1 rfl)) ?_
  refine A5 rfl ?_
  refine C4 rfl (fun hc => B2 6 rfl C0 rfl K2 (A0 rfl) rfl) ?_
  refine C4 rfl (fun hc => B0 0 rfl (A6 rfl hc) rfl K7 rfl) ?_
  refine C4 rfl (fun hc => K3 rfl (A6 rfl hc)) ?_
  refine A1 rfl (G8 rfl (A0 rfl) (F1 rfl)) ?_
  refine B4 rfl ?_
  refine A4 ?_
  refine C2 ?_
  exact G1 rfl (B8 rfl (by first | (exfalso; omega) | exact congrArg AV.bool (by unfold goodRec good1 good2 good4 bareR; simp [*])))
 intro h101
 have k101 := S2 h101; try simp only [A9] at k101
 refine C8 (A3 (A2 ?_))
 refine A1 rfl (B3 rfl F0) ?_
 refine A4 ?_
 refine C2 ?_
 exact G1 rfl (B8 rfl (by first | (exfalso; omega) | exact congrArg AV.bool (by unfold goodRec good1 good2 good4 bareR; simp [*])))
theorem Ar5 (l : List Str) (hs : ∀ k ∈ l, k.length ≤ 4611686018427387904) : FSpec Tryz.prog 162 [strs l] (AV.bool (l4Keys l)) := by
 refine D8 Tryz.func162 rfl Tryz.ntmps162 rfl ?_
 refine Q6 (t := 0) rfl fun hl => ?_
 try simp only [A9] at hl
 refine A3 (A2 ?_)
 refine A1 rfl (B3 rfl F0) ?_
 refine A4 (A3 (A3 (A2 ?_)))
 refine A5 rfl ?_
 refine A1 rfl (G5 rfl E5 (A0 rfl)) ?_
 refine A1 rfl (B7 rfl B5) ?_
 refine A4 (D0 ?_)
 refine H4 [(0, _), (5, _), (6, _)] _ (fun (i : Nat) => i ≤ l.length ∧ (l.all l3Key && adj Op.bytesLess l) = ((l.drop i).all l3Key && adj Op.bytesLess (l.drop (i - 1)))) (fun (i : Nat) => []) (fun (i : Nat) => [(7, AV.int i)]) (fun (i : Nat) => l.length - i) (0) ?_ (H8 ⟨rfl, rfl, rfl, rfl, trivial⟩) ?_
 ·exact ⟨Nat.zero_le _, rfl⟩
 intro i hinv
 refine A3 (A2 ?_)
 refine A1 rfl (I4 rfl (A0 rfl) (A0 rfl)) ?_
 refine A4 (A3 ?_)
 refine C3 (A0 rfl) ?_ ?_
 ·intro h8
  have k8 := of_decide_eq_true h8; try simp only [A9] at k8
  have hlt : i < l.length := by omega
  obtain ⟨x, hx⟩ := get_some hlt
  obtain ⟨y, hy⟩ := get_some (show i - 1 < l.length by omega)
  have hsx := hs x (G6 hx)
  refine C8 (A3 (D0 (A3 (A2 ?_))))
  refine A5 rfl ?_
  refine A1 rfl (d6 rfl E5 E3 (A0 rfl) (A0 rfl) (by omega) (by simp only [Int.toNat_natCast, List.getElem?_map, hx, Option.map_some]; try rfl)) ?_
  refine A1 rfl (L3 rfl (A0 rfl) F5 rfl) ?_
  refine B4 rfl ?_
  refine B4 rfl ?_
  refine A4 (A3 (A2 ?_))
  refine A5 rfl ?_
  refine A1 rfl (D7 rfl Tryz.call198 rfl (AG9 _ (by omega)) (A8 (A0 rfl) C6)) ?_
  refine A1 rfl (K3 rfl (A0 rfl)) ?_
  refine A5 rfl ?_
  refine H2 rfl (fun hc => B7 rfl (A0 rfl)) ?_
  refine H2 rfl (fun hc => N6 rfl (A6 rfl hc) B5) ?_
  refine H2 rfl (fun hc => B7 rfl (A6 rfl hc)) ?_
  refine H6 rfl rfl (D6 rfl rfl rfl) (fun hc => B7 rfl (A0 rfl)) ?_
  refine H6 rfl rfl (D6 rfl rfl rfl) (fun hc => B7 rfl (A0 rfl)) ?_
  refine H6 rfl rfl (D6 rfl rfl rfl) (fun hc => Q5 rfl (A6 rfl hc) B5 (by first | omega | ((try simp only [D1, A7, szR] at *); omega) | (have hc2 := hc; simp only [M7, beq_iff_eq, bne_iff_ne, A9, E6] at hc2; omega))) ?_
  refine H6 rfl rfl (D6 rfl rfl rfl) (fun hc => d6 rfl E5 E3 (A6 rfl hc) (A6 rfl hc) (by have := of_decide_eq_true (Ai3 hc); omega) (by have := of_decide_eq_true (Ai3 hc); rw [show ((i : Int) - 1).toNat = i - 1 by omega]; simp only [List.getElem?_map, hy, Option.map_some]; try rfl)) ?_
  refine H6 rfl rfl (D6 rfl rfl rfl) (fun hc => L3 rfl (A6 rfl hc) F5 rfl) ?_
  refine H6 rfl rfl (D6 rfl rfl rfl) (fun hc => B7 rfl (A0 rfl)) ?_
  refine H6 rfl rfl (D6 rfl rfl rfl) (fun hc => Aj3 rfl (A6 rfl hc) (A6 rfl hc)) ?_
  refine H2 rfl (fun hc => G8 rfl (A6 rfl hc) (O5 rfl hc)) ?_
  refine A1 rfl (P9 rfl (A0 rfl) (F1 rfl)) ?_
  refine A4 ?_
  refine C3 (A0 rfl) ?_ ?_
  ·intro h27
   have hfin : (l.all l3Key && adj Op.bytesLess l) = false := by rw [hinv.2, drop_some hx, List.all_cons]; cases hg : l3Key x with | false => simp | true => (simp only [hg, Bool.not_true, Bool.false_or, Bool.and_eq_true, decide_eq_true_eq, Bool.not_eq_true'] at h27; rw [c7 hx hy (by omega) h27.2]; simp)
   refine A3 (A2 ?_)
   refine A1 rfl (B3 rfl F0) ?_
   refine A4 ?_
   refine C2 ?_
   exact G1 rfl (B8 rfl (by first | exact congrArg AV.bool (by unfold l4Keys; rw [hfin]; rfl) | exact congrArg AV.bool (by unfold l4Keys; rw [hinv.2, U2 hge, List.drop_eq_nil_of_le hge]; simp)))
  intro h27
  refine C8 (A2 ?_)
  refine A1 rfl (F6 rfl (A0 rfl) B5 (by first | omega | (simp only [D1, A7, szR] at *; omega))) ?_
  refine A5 rfl ?_
  refine A4 ?_
  refine J3 i (i + 1) ?_ ?_ (H8 ⟨rfl, rfl, rfl, rfl, trivial⟩)
  ·exact ⟨by omega, by rw [hinv.2, drop_some hx, List.all_cons, c6 hx hy (fun h0 => by simp_all), show l3Key x = true by simp_all, Bool.true_and]⟩
  omega
 intro h8
 have k8 := of_decide_eq_false h8; try simp only [A9] at k8
 have hge : l.length ≤ i := by omega
 refine G0 ?_
 refine A3 (A2 ?_)
 refine A5 rfl ?_
 refine A1 rfl (G5 rfl E5 (A0 rfl)) ?_
 refine A1 rfl (S1 rfl (A0 rfl) B5) ?_
 refine B4 rfl ?_
 refine A4 ?_
 refine C2 ?_
 exact G1 rfl (B8 rfl (by first | exact congrArg AV.bool (by unfold l4Keys; rw [hfin]; rfl) | exact congrArg AV.bool (by unfold l4Keys; rw [hinv.2, U2 hge, List.drop_eq_nil_of_le hge]; simp)))
theorem AQ5 (r : TRec) (hs : r.size ≤ 1048576) : FSpec Tryz.prog 106 [AV.agg r.cs] (AV.bool (l4Good r)) := by
 obtain ⟨hr1, hr2, hr3, hr4⟩ := Ae1 hs
 refine D8 Tryz.func106 rfl Tryz.ntmps106 rfl ?_
 refine A3 (A2 ?_)
 refine L6 rfl rfl rfl rfl (A0 rfl) ?_
 intro b1
 refine A1 rfl (B3 rfl F0) ?_
 refine A4 (A3 (A3 (A2 ?_)))
 refine A1 rfl (B2 0 rfl C0 rfl B9 (A0 rfl) rfl) ?_
 refine A1 rfl (B0 0 rfl (A0 rfl) rfl C1 rfl) ?_
 refine A1 rfl (t8 rfl (A0 rfl) B5) ?_
 refine A5 rfl ?_
 refine C4 rfl (fun hc => B2 3 rfl C0 rfl B9 (A0 rfl) rfl) ?_
 refine C4 rfl (fun hc => B0 0 rfl (A6 rfl hc) rfl C1 rfl) ?_
 refine C4 rfl (fun hc => t8 rfl (A6 rfl hc) B5) ?_
 refine C4 rfl (fun hc => B7 rfl (A6 rfl hc)) ?_
 refine H6 rfl rfl (N1 rfl rfl rfl) (fun hc => B2 4 rfl C0 rfl N3 (A0 rfl) rfl) ?_
 refine H6 rfl rfl (N1 rfl rfl rfl) (fun hc => B0 0 rfl (A6 rfl hc) rfl P7 rfl) ?_
 refine H6 rfl rfl (N1 rfl rfl rfl) (fun hc => G5 rfl E5 (A6 rfl hc)) ?_
 refine H6 rfl rfl (N1 rfl rfl rfl) (fun hc => B2 5 rfl C0 rfl K4 (A0 rfl) rfl) ?_
 refine H6 rfl rfl (N1 rfl rfl rfl) (fun hc => B0 0 rfl (A6 rfl hc) rfl L2 rfl) ?_
 refine H6 rfl rfl (N1 rfl rfl rfl) (fun hc => G5 rfl F7 (A6 rfl hc)) ?_
 refine H6 rfl rfl (N1 rfl rfl rfl) (fun hc => F6 rfl (A6 rfl hc) (A6 rfl hc) (by first | omega | ((try simp only [D1, A7, szR] at *); omega) | (have hc2 := hc; simp only [M7, beq_iff_eq, bne_iff_ne, A9, E6] at hc2; omega))) ?_
 refine H6 rfl rfl (N1 rfl rfl rfl) (fun hc => N6 rfl (A6 rfl hc) B5) ?_
 refine C4 rfl (fun hc => P9 rfl (A6 rfl hc) (O5 rfl hc)) ?_
 refine A1 rfl (G8 rfl (A0 rfl) (F1 rfl)) ?_
 refine A4 ?_
 refine C3 (A0 rfl) ?_ ?_
 ·intro h20
  have ho : oddR r = true := by (unfold oddR; simpa using h20)
  refine A3 (A2 ?_)
  refine A1 rfl (B3 rfl F0) ?_
  refine A4 ?_
  refine C2 ?_
  exact G1 rfl (B8 rfl (by first | (exfalso; omega) | exact congrArg AV.bool (by unfold l4Good; rw [ho]; first | rfl | (unfold l4G1 l4G2 l4G4; simp [*]))))
 intro h20
 have ho : oddR r = false := by (unfold oddR; simpa using h20)
 refine C8 (A3 (A3 (A2 ?_)))
 refine A1 rfl (B2 0 rfl C0 rfl B9 (A0 rfl) rfl) ?_
 refine A1 rfl (B0 0 rfl (A0 rfl) rfl C1 rfl) ?_
 refine A4 (D0 (A3 (A2 ?_)))
 refine A1 rfl (R6 rfl (A0 rfl) B5) ?_
 refine B4 rfl ?_
 refine A4 ?_
 refine C3 (A0 rfl) ?_ ?_
 ·intro h23
  have k23 := S3 h23; try simp only [A9] at k23
  refine A3 (A2 ?_)
  refine A1 rfl (B2 1 rfl C0 rfl B9 (A0 rfl) rfl) ?_
  refine A1 rfl (B0 0 rfl (A0 rfl) rfl C1 rfl) ?_
  refine A1 rfl (D7 rfl Tryz.call39 rfl (R9 _ _ _) (A8 (A0 rfl) (A8 B5 (A8 B5 C6)))) ?_
  refine A5 rfl ?_
  refine C4 rfl (fun hc => B2 2 rfl C0 rfl B9 (A0 rfl) rfl) ?_
  refine C4 rfl (fun hc => B0 0 rfl (A6 rfl hc) rfl C1 rfl) ?_
  refine C4 rfl (fun hc => D7 rfl Tryz.call161 rfl (a6 _) (A8 (A6 rfl hc) C6)) ?_
  refine A1 rfl (G8 rfl (A0 rfl) (F1 rfl)) ?_
  refine A5 rfl ?_
  refine C4 rfl (fun hc => B2 3 rfl C0 rfl B9 (A0 rfl) rfl) ?_
  refine C4 rfl (fun hc => B0 0 rfl (A6 rfl hc) rfl C1 rfl) ?_
  refine C4 rfl (fun hc => D7 rfl Tryz.call39 rfl (R9 _ _ _) (A8 (A6 rfl hc) (A8 B5 (A8 B5 C6)))) ?_
  refine A1 rfl (G8 rfl (A0 rfl) (F1 rfl)) ?_
  refine A5 rfl ?_
  refine C4 rfl (fun hc => B2 4 rfl C0 rfl N3 (A0 rfl) rfl) ?_
  refine C4 rfl (fun hc => B0 0 rfl (A6 rfl hc) rfl P7 rfl) ?_
  refine C4 rfl (fun hc => D7 rfl Tryz.call162 rfl (Ar5 r.Reads hr1) (A8 (A6 rfl hc) C6)) ?_
  refine A1 rfl (G8 rfl (A0 rfl) (F1 rfl)) ?_
  refine A5 rfl ?_
  refine C4 rfl (fun hc => B2 5 rfl C0 rfl K4 (A0 rfl) rfl) ?_
  refine C4 rfl (fun hc => B0 0 rfl (A6 rfl hc) rfl L2 rfl) ?_
  refine C4 rfl (fun hc => D7 rfl Tryz.call163 rfl (Ag6 r.Writes (by omega)) (A8 (A6 rfl hc) C6)) ?_
  refine A1 rfl (G8 rfl (A0 rfl) (F1 rfl)) ?_
  refine A5 rfl ?_
  refine C4 rfl (fun hc => B2 5 rfl C0 rfl K4 (A0 rfl) rfl) ?_
  refine C4 rfl (fun hc => B0 0 rfl (A6 rfl hc) rfl L2 rfl) ?_
  refine C4 rfl (fun hc => G5 rfl F7 (A6 rfl hc)) ?_
  refine C4 rfl (fun hc => D7 rfl Tryz.call39 rfl (R9 _ _ _) (A8 (A6 rfl hc) (A8 B5 (A8 B5 C6)))) ?_
  refine A1 rfl (G8 rfl (A0 rfl) (F1 rfl)) ?_
  refine A5 rfl ?_
  refine C4 rfl (fun hc => B2 4 rfl C0 rfl N3 (A0 rfl) rfl) ?_
  refine C4 rfl (fun hc => B0 0 rfl (A6 rfl hc) rfl P7 rfl) ?_
  refine C4 rfl (fun hc => G5 rfl E5 (A6 rfl hc)) ?_
  refine C4 rfl (fun hc => B2 5 rfl C0 rfl K4 (A0 rfl) rfl) ?_
  refine C4 rfl (fun hc => B0 0 rfl (A6 rfl hc) rfl L2 rfl) ?_
  refine C4 rfl (fun hc => G5 rfl F7 (A6 rfl hc)) ?_
  refine C4 rfl (fun hc => F6 rfl (A6 rfl hc) (A6 rfl hc) (by first | omega | ((try simp only [D1, A7, szR] at *); omega) | (have hc2 := hc; simp only [M7, beq_iff_eq, bne_iff_ne, A9, E6] at hc2; omega))) ?_
  refine C4 rfl (fun hc => N6 rfl (A6 rfl hc) B5) ?_
  refine A1 rfl (G8 rfl (A0 rfl) (F1 rfl)) ?_
  refine A5 rfl ?_
  refine C4 rfl (fun hc => B2 6 rfl C0 rfl K2 (A0 rfl) rfl) ?_
  refine C4 rfl (fun hc => B0 0 rfl (A6 rfl hc) rfl K7 rfl) ?_
  refine C4 rfl (fun hc => K3 rfl (A6 rfl hc)) ?_
  refine A1 rfl (G8 rfl (A0 rfl) (F1 rfl)) ?_
  refine B4 rfl ?_
  refine A4 ?_
  refine C2 ?_
  exact G1 rfl (B8 rfl (by first | (exfalso; omega) | exact congrArg AV.bool (by unfold l4Good; rw [ho]; first | rfl | (unfold l4G1 l4G2 l4G4; simp [*]))))
 intro h23
 have k23 := S2 h23; try simp only [A9] at k23
 refine A3 (A3 (A2 ?_))
 refine A1 rfl (R6 rfl (A0 rfl) B5) ?_
 refine B4 rfl ?_
 refine A4 ?_
 refine C3 (A0 rfl) ?_ ?_
 ·intro h69
  have k69 := S3 h69; try simp only [A9] at k69
  refine C8 ?_
  refine C3 (A0 rfl) ?_ ?_
  ·intro h69
   have k69 := S3 h69; try simp only [A9] at k69
   refine A3 (A2 ?_)
   refine A1 rfl (B2 1 rfl C0 rfl B9 (A0 rfl) rfl) ?_
   refine A1 rfl (B0 0 rfl (A0 rfl) rfl C1 rfl) ?_
   refine A1 rfl (D7 rfl Tryz.call39 rfl (R9 _ _ _) (A8 (A0 rfl) (A8 B5 (A8 B5 C6)))) ?_
   refine A5 rfl ?_
   refine C4 rfl (fun hc => B2 6 rfl C0 rfl K2 (A0 rfl) rfl) ?_
   refine C4 rfl (fun hc => B0 0 rfl (A6 rfl hc) rfl K7 rfl) ?_
   refine C4 rfl (fun hc => B7 rfl (A6 rfl hc)) ?_
   refine H6 rfl rfl (D6 rfl rfl rfl) (fun hc => B2 2 rfl C0 rfl B9 (A0 rfl) rfl) ?_
   refine H6 rfl rfl (D6 rfl rfl rfl) (fun hc => B0 0 rfl (A6 rfl hc) rfl C1 rfl) ?_
   refine H6 rfl rfl (D6 rfl rfl rfl) (fun hc => D7 rfl Tryz.call161 rfl (a6 _) (A8 (A6 rfl hc) C6)) ?_
   refine C4 rfl (fun hc => G8 rfl (A6 rfl hc) (O5 rfl hc)) ?_
   refine C4 rfl (fun hc => B7 rfl (A6 rfl hc)) ?_
   refine H6 rfl rfl (N1 rfl rfl rfl) (fun hc => B2 6 rfl C0 rfl K2 (A0 rfl) rfl) ?_
   refine H6 rfl rfl (N1 rfl rfl rfl) (fun hc => B0 0 rfl (A6 rfl hc) rfl K7 rfl) ?_
   refine H6 rfl rfl (N1 rfl rfl rfl) (fun hc => K3 rfl (A6 rfl hc)) ?_
   refine H6 rfl rfl (N1 rfl rfl rfl) (fun hc => B7 rfl (A6 rfl hc)) ?_
   refine H6 rfl rfl (D6 rfl rfl rfl) (fun hc => B2 2 rfl C0 rfl B9 (A0 rfl) rfl) ?_
   refine H6 rfl rfl (D6 rfl rfl rfl) (fun hc => B0 0 rfl (A6 rfl hc) rfl C1 rfl) ?_
   refine H6 rfl rfl (D6 rfl rfl rfl) (fun hc => R6 rfl (A6 rfl hc) B5) ?_
   refine H6 rfl rfl (N1 rfl rfl rfl) (fun hc => G8 rfl (A6 rfl hc) (O5 rfl hc)) ?_
   refine C4 rfl (fun hc => P9 rfl (A6 rfl hc) (O5 rfl hc)) ?_
   refine A1 rfl (G8 rfl (A0 rfl) (F1 rfl)) ?_
   refine B4 rfl ?_
   refine A4 ?_
   refine C2 ?_
   exact G1 rfl (B8 rfl (by first | (exfalso; omega) | exact congrArg AV.bool (by unfold l4Good; rw [ho]; first | rfl | (unfold l4G1 l4G2 l4G4; simp [*]))))
  intro h69
  have k69 := S2 h69; try simp only [A9] at k69
  refine C8 (A3 (A2 ?_))
  refine A1 rfl (B2 0 rfl C0 rfl B9 (A0 rfl) rfl) ?_
  refine A1 rfl (B0 0 rfl (A0 rfl) rfl C1 rfl) ?_
  refine A1 rfl (R6 rfl (A0 rfl) B5) ?_
  refine A5 rfl ?_
  refine C4 rfl (fun hc => B2 1 rfl C0 rfl B9 (A0 rfl) rfl) ?_
  refine C4 rfl (fun hc => B0 0 rfl (A6 rfl hc) rfl C1 rfl) ?_
  refine C4 rfl (fun hc => R6 rfl (A6 rfl hc) B5) ?_
  refine A1 rfl (G8 rfl (A0 rfl) (F1 rfl)) ?_
  refine A5 rfl ?_
  refine C4 rfl (fun hc => B2 2 rfl C0 rfl B9 (A0 rfl) rfl) ?_
  refine C4 rfl (fun hc => B0 0 rfl (A6 rfl hc) rfl C1 rfl) ?_
  refine C4 rfl (fun hc => D7 rfl Tryz.call161 rfl (a6 _) (A8 (A6 rfl hc) C6)) ?_
  refine A1 rfl (G8 rfl (A0 rfl) (F1 rfl)) ?_
  refine A5 rfl ?_
  refine C4 rfl (fun hc => B2 6 rfl C0 rfl K2 (A0 rfl) rfl) ?_
  refine C4 rfl (fun hc => B0 0 rfl (A6 rfl hc) rfl K7 rfl) ?_
  refine C4 rfl (fun hc => K3 rfl (A6 rfl hc)) ?_
  refine A1 rfl (G8 rfl (A0 rfl) (F1 rfl)) ?_
  refine B4 rfl ?_
  refine A4 ?_
  refine C2 ?_
  exact G1 rfl (B8 rfl (by first | (exfalso; omega) | exact congrArg AV.bool (by unfold l4Good; rw [ho]; first | rfl | (unfold l4G1 l4G2 l4G4; simp [*]))))
 intro h69
 have k69 := S2 h69; try simp only [A9] at k69
 refine A2 ?_
 refine A1 rfl (R6 rfl (A0 rfl) B5) ?_
 refine B4 rfl ?_
 refine A4 ?_
 refine C3 (A0 rfl) ?_ ?_
 ·intro h69
  have k69 := S3 h69; try simp only [A9] at k69
  refine A3 (A2 ?_)
  refine A1 rfl (B2 1 rfl C0 rfl B9 (A0 rfl) rfl) ?_
  refine A1 rfl (B0 0 rfl (A0 rfl) rfl C1 rfl) ?_
  refine A1 rfl (D7 rfl Tryz.call39 rfl (R9 _ _ _) (A8 (A0 rfl) (A8 B5 (A8 B5 C6)))) ?_
  refine A5 rfl ?_
  refine C4 rfl (fun hc => B2 6 rfl C0 rfl K2 (A0 rfl) rfl) ?_
  refine C4 rfl (fun hc => B0 0 rfl (A6 rfl hc) rfl K7 rfl) ?_
  refine C4 rfl (fun hc => B7 rfl (A6 rfl hc)) ?_
  refine H6 rfl rfl (D6 rfl rfl rfl) (fun hc => B2 2 rfl C0 rfl B9 (A0 rfl) rfl) ?_
  refine H6 rfl rfl (D6 rfl rfl rfl) (fun hc => B0 0 rfl (A6 rfl hc) rfl C1 rfl) ?_
  refine H6 rfl rfl (D6 rfl rfl rfl) (fun hc => D7 rfl Tryz.call161 rfl (a6 _) (A8 (A6 rfl hc) C6)) ?_
  refine C4 rfl (fun hc => G8 rfl (A6 rfl hc) (O5 rfl hc)) ?_
  refine C4 rfl (fun hc => B7 rfl (A6 rfl hc)) ?_
  refine H6 rfl rfl (N1 rfl rfl rfl) (fun hc => B2 6 rfl C0 rfl K2 (A0 rfl) rfl) ?_
  refine H6 rfl rfl (N1 rfl rfl rfl) (fun hc => B0 0 rfl (A6 rfl hc) rfl K7 rfl) ?_
  refine H6 rfl rfl (N1 rfl rfl rfl) (fun hc => K3 rfl (A6 rfl hc)) ?_
  refine H6 rfl rfl (N1 rfl rfl rfl) (fun hc => B7 rfl (A6 rfl hc)) ?_
  refine H6 rfl rfl (D6 rfl rfl rfl) (fun hc => B2 2 rfl C0 rfl B9 (A0 rfl) rfl) ?_
  refine H6 rfl rfl (D6 rfl rfl rfl) (fun hc => B0 0 rfl (A6 rfl hc) rfl C1 rfl) ?_
  refine H6 rfl rfl (D6 rfl rfl rfl) (fun hc => R6 rfl (A6 rfl hc) B5) ?_
  refine H6 rfl rfl (N1 rfl rfl rfl) (fun hc => G8 rfl (A6 rfl hc) (O5 rfl hc)) ?_
  refine C4 rfl (fun hc => P9 rfl (A6 rfl hc) (O5 rfl hc)) ?_
  refine A1 rfl (G8 rfl (A0 rfl) (F1 rfl)) ?_
  refine B4 rfl ?_
  refine A4 ?_
  refine C2 ?_
  exact G1 rfl (B8 rfl (by first | (exfalso; omega) | exact congrArg AV.bool (by unfold l4Good; rw [ho]; first | rfl | (unfold l4G1 l4G2 l4G4; simp [*]))))
 intro h69
 have k69 := S2 h69; try simp only [A9] at k69
 refine C8 (A3 (A2 ?_))
 refine A1 rfl (B2 0 rfl C0 rfl B9 (A0 rfl) rfl) ?_
 refine A1 rfl (B0 0 rfl (A0 rfl) rfl C1 rfl) ?_
 refine A1 rfl (R6 rfl (A0 rfl) B5) ?_
 refine A5 rfl ?_
 refine C4 rfl (fun hc => B2 1 rfl C0 rfl B9 (A0 rfl) rfl) ?_
 refine C4 rfl (fun hc => B0 0 rfl (A6 rfl hc) rfl C1 rfl) ?_
 refine C4 rfl (fun hc => R6 rfl (A6 rfl hc) B5) ?_
 refine A1 rfl (G8 rfl (A0 rfl) (F1 rfl)) ?_
 refine A5 rfl ?_
 refine C4 rfl (fun hc => B2 2 rfl C0 rfl B9 (A0 rfl) rfl) ?_
 refine C4 rfl (fun hc => B0 0 rfl (A6 rfl hc) rfl C1 rfl) ?_
 refine C4 rfl (fun hc => D7 rfl Tryz.call161 rfl (a6 _) (A8 (A6 rfl hc) C6)) ?_
 refine A1 rfl (G8 rfl (A0 rfl) (F1 rfl)) ?_
 refine A5 rfl ?_
 refine C4 rfl (fun hc => B2 6 rfl C0 rfl K2 (A0 rfl) rfl) ?_
 refine C4 rfl (fun hc => B0 0 rfl (A6 rfl hc) rfl K7 rfl) ?_
 refine C4 rfl (fun hc => K3 rfl (A6 rfl hc)) ?_
 refine A1 rfl (G8 rfl (A0 rfl) (F1 rfl)) ?_
 refine B4 rfl ?_
 refine A4 ?_
 refine C2 ?_
 exact G1 rfl (B8 rfl (by first | (exfalso; omega) | exact congrArg AV.bool (by unfold l4Good; rw [ho]; first | rfl | (unfold l4G1 l4G2 l4G4; simp [*]))))
end Go.Proofs.YtkegepoihkhihaaGreat

namespace Go.AV
section
variable {P : Program} {G : Nat → Prop} {n : Nat} {own : List Own} {o : Oper}
end
end Go.AV

namespace Go.AV
open Go.RowKit (Below)
section
variable {P : Program} {G : Nat → Prop} {n : Nat} {own : List Own} {o : Oper} {E : EnvF}
theorem w_tlen {t e : TypeId} {p : Operand} {v : Value} {sz lo : Nat} {es : List (List AV)} (i : Nat) (ho : o.op = .call { callee := .builtin .len, args := #[p], argTypes := #[t] }) (ht : P.underlying t = some (.slice e)) (hp : Ev E p (AV.is (tailV lo sz v))) (hi : own[i]? = some (.arr v e sz es)) : OpW P G n own o E (AV.int ((es.length - lo : Nat) : Int)) := U4 fun w0 R0 R a w hcore he => by
  have h1 : a.eval p = _ := G9 hp (by simp [ho, Op.operands, Call.operands]) he
  obtain ⟨_, _, xs, hown, _⟩ := hcore.owned _ (G6 hi)
  obtain ⟨oa, c, rfl, _⟩ := m9 hown
  have hel : P.elem t = e := by simp [Program.elem, ht]
  have h2 := fun (b : Option Addr) => run_len_slice (P := P) w t o.type b (es.length - lo) (c - lo) (by rw [hel]; exact ht)
  exact ⟨.int .i64 (es.length - lo : Nat), by simp only [execOp, ho, resolve, invoke, builtin, List.map_toArray, List.map_cons, List.map_nil, h1, tailV, sliced, h2, Sem.run_bind, Sem.run_pure, Result.andThen_ok, goInt], rfl⟩
theorem Al8 {t e : TypeId} {p q : Operand} {v : Value} {sz lo : Nat} {es : List (List AV)} {k : Int} (i : Nat) (ho : o.op = .indexAddr t p q) (ht : P.underlying t = some (.slice e)) (hsz : ∀ w, (sizeOf e).run P w = .ok sz w) (hp : Ev E p (AV.is (tailV lo sz v))) (hi : own[i]? = some (.arr v e sz es)) (hq : Ev E q (AV.int k)) (h0 : 0 ≤ k) (hk : lo + k < es.length) :
    OpW P G n own o E (AV.is (elemPtr v ((lo + k.toNat) * sz))) := U4 fun w0 R0 R a w hcore he => by
  have h1 : a.eval p = _ := G9 hp (by simp [ho, Op.operands]) he
  have h2 : a.eval q = .int .i64 k := G9 hq (by simp [ho, Op.operands]) he
  obtain ⟨_, _, xs, hown, _⟩ := hcore.owned _ (G6 hi)
  rcases hown.2 with ⟨rfl, hz⟩ | ⟨g, cap, cur, rfl, _, _, hn, _⟩
  · rw [hz] at hk; simp at hk; omega
  · have hel : P.elem t = e := by simp [Program.elem, ht]
    have hne : ¬ cap = lo := by omega
    have hk2 : k < ((es.length - lo : Nat) : Int) := by omega
    have h3 := run_indexAt_slice (P := P) w t ((⟨g, 0, none⟩ : Addr).add (lo * sz)) (es.length - lo) (cap - lo) .i64 k (by rw [hel]; exact ht)
    rw [if_pos ⟨h0, hk2⟩, hel, hsz, Result.andThen_ok] at h3
    have e : (lo + k.toNat) * sz = lo * sz + k.toNat * sz := Nat.add_mul _ _ _
    refine ⟨.pointer (some (Addr.add ((⟨g, 0, none⟩ : Addr).add (lo * sz)) (k.toNat * sz))), by simp only [execOp, ho, h1, h2, tailV, sliced, if_neg hne, Option.map_some, h3, Sem.run_bind, Sem.run_pure, Result.andThen_ok], ?_⟩
    rw [e]
    show Value.pointer _ = Value.pointer (some (Addr.add ⟨g, 0, none⟩ (lo * sz + k.toNat * sz)))
    simp only [Z2, Nat.zero_add]
def SrcE (own : List Own) (E : EnvF) (q : Operand) (sz : Nat) (fs : List (List AV)) : Prop :=
  ∀ (G : Nat → Prop) (w0 : World) (R0 R : RHeap) (a : Act) (w : World), Core G w0 R0 own R w → (∀ t, q = .tmp t → ∀ y, E t = some y → y.den R (a.tmps.getD t undef)) →
    (∀ f ∈ fs, f.length = sz) ∧ ∃ oa cap vs, a.eval q = .slice oa fs.length cap ∧ (fs ≠ [] → ∃ ad, oa = some ad ∧ (∀ j u, vs[j]? = some u → w.cell? (ad.add j) = some u) ∧ DenC R vs fs.flatten)
def headV (k sz : Nat) : Value → Value
  | .slice a _ c => sliced a 0 k c sz
  | v => v
theorem BC1 {q : Operand} {v : Value} {k : Nat} {e : TypeId} {sz : Nat} {es : List (List AV)} (i : Nat) (hi : own[i]? = some (.arr v e sz es)) (hq : Ev E q (AV.is (tailV k sz v))) (hk : k ≤ es.length) : SrcE own E q sz (es.drop k) := fun G w0 R0 R a w hc he => by
  have e1 : a.eval q = _ := hq R a he
  have hok := hc.owned _ (G6 hi)
  have hu := hok.2.1
  refine ⟨fun f hf => hu f (List.mem_of_mem_drop hf), ?_⟩
  obtain ⟨_, _, xs0, hown0, _⟩ := hok
  rcases hown0.2 with ⟨h1, h2⟩ | ⟨g, cap, cur0, h1, _⟩
  · subst h1
    have h3 : es = [] := List.eq_nil_of_length_eq_zero h2
    subst h3
    have : k = 0 := by simpa using hk
    subst this
    exact ⟨none, 0, [], by rw [e1]; rfl, fun h => absurd rfl h⟩
  · subst h1
    by_cases hne : es.drop k = []
    · refine ⟨_, cap - k, [], by rw [e1, List.length_drop]; rfl, fun h => absurd hne h⟩
    · have hsrc := src_own (own := own) (E := E) (q := q) (k := k) i hi hq
      obtain ⟨_, h7⟩ := hsrc G w0 R0 R a w hc he
      obtain ⟨ad, c, vs, k1, k2, k3⟩ := h7 hne
      exact ⟨_, c, vs, k1, fun _ => ⟨ad, rfl, k2, k3⟩⟩
theorem BC2 {q : Operand} {v : Value} {k : Nat} {e : TypeId} {sz : Nat} {es : List (List AV)} (i : Nat) (hi : own[i]? = some (.arr v e sz es)) (hq : Ev E q (AV.is (headV k sz v))) (hk : k ≤ es.length) : SrcE own E q sz (es.take k) := fun G w0 R0 R a w hc he => by
  have e1 : a.eval q = _ := hq R a he
  have hok := hc.owned _ (G6 hi)
  have hu := hok.2.1
  have hlk : (es.take k).length = k := by rw [E6]; omega
  refine ⟨fun f hf => hu f (List.mem_of_mem_take hf), ?_⟩
  obtain ⟨_, _, xs0, hown0, _⟩ := hok
  rcases hown0.2 with ⟨h1, h2⟩ | ⟨g, cap, cur0, h1, _⟩
  · subst h1
    have h3 : es = [] := List.eq_nil_of_length_eq_zero h2
    subst h3
    have : k = 0 := by simpa using hk
    subst this
    exact ⟨none, 0, [], by rw [e1]; rfl, fun h => absurd rfl h⟩
  · subst h1
    have hv : headV k sz (slv g es.length cap) = slv g k cap := Aq7 g k cap sz
    rw [hv] at e1
    obtain ⟨hl, hlc, _, hu2, cur, xs, hg, hcs, htake, hxl, hd⟩ := Ak1 (hc.owned _ (G6 hi))
    have hmul : k * sz ≤ es.length * sz := Nat.mul_le_mul_right sz hk
    refine ⟨_, cap, xs.take (k * sz), by rw [e1, hlk], fun _ => ⟨_, rfl, fun j u hu' => ?_, ?_⟩⟩
    · have hj : j < k * sz := by have := (List.getElem?_eq_some_iff.1 hu').1; rw [E6] at this; omega
      rw [List.getElem?_take_of_lt hj, ← htake, List.getElem?_take_of_lt (by omega), Array.getElem?_toList] at hu'
      rw [Z2, Nat.zero_add]
      simp [World.cell?, hg, hu']
    · rw [Y1 k hu]
      exact ⟨by simp [hd.1], fun i u x hu' hx => by
        by_cases hij : i < k * sz
        · simp only [List.getElem?_take_of_lt hij] at hu' hx; exact hd.2 i u x hu' hx
        · rw [List.getElem?_eq_none (by simp; omega)] at hu'; cases hu'⟩
theorem w_ahiT {t e : TypeId} {p q : Operand} {v : Value} {sz : Nat} {es : List (List AV)} {k : Int} (i : Nat) (ho : o.op = .slice t p none (some q) none) (ht : P.underlying t = some (.slice e)) (hsz : ∀ w, (sizeOf e).run P w = .ok sz w) (hp : Ev E p (AV.is v)) (hi' : own[i]? = some (.arr v e sz es)) (hq : Ev E q (AV.int k)) (h0 : 0 ≤ k) (h1 : k ≤ es.length) :
    OpW P G n own o E (AV.is (headV k.toNat sz v)) := U4 fun w0 R0 R a w hcore he => by
  have e1 : a.eval p = v := G9 hp (by simp [ho, Op.operands]) he
  have e2 : a.eval q = .int .i64 k := G9 hq (by simp [ho, Op.operands]) he
  have hel : P.elem t = e := by simp [Program.elem, ht]
  obtain ⟨_, _, xs, hown, _⟩ := hcore.owned _ (G6 hi')
  obtain ⟨oa, c, rfl, hnc⟩ := m9 hown
  have hr1 := run_slice_h (P := P) (w := w) (t := t) (a := oa) (len := es.length) (cap := c) (by rw [hel]; exact ht) .i64 k h0 (by omega)
  rw [hel, hsz, Result.andThen_ok] at hr1
  exact ⟨sliced oa 0 k.toNat c sz, by simp only [execOp, ho, e1, e2, Option.map_some, Option.map_none, run_sliceAt_slice w t _ _ _ _ (by rw [hel]; exact ht), hr1, Sem.run_bind, Sem.run_pure, Result.andThen_ok], rfl⟩
theorem AQ6 {ops : Array Oper} {t e : TypeId} {p q : Operand} {sz by' : Nat} {inf : TypeInfo} {z : Value} {v : Value} {es fs : List (List AV)} (i : Nat) (ho : o.op = .call { callee := .builtin .append, args := #[p, q], argTypes := #[t, t] }) (ht : P.underlying t = some (.slice e)) (hinf : P.info? e = some inf) (hz : inf.zero = some z) (hsz : inf.size = sz) (hby : inf.bytes = by') (hzs : z.cells.size = sz) (hpos : Nat.ble 1 sz = true) (hpos2 : Nat.ble 1 by' = true) (hp : Ev E p (AV.is v)) (hq : SrcE own E q sz fs) (hi : own[i]? = some (.arr v e sz es))
    (hlen : (es.length + fs.length) * by' ≤ 140737488355328) : OpE P G n own ops o E (fun _ : Value => True) (fun v' => own.set i (.arr v' e sz (es ++ fs))) (fun v' => AV.is v') :=
  fun w0 R0 R a w h1 h3 h2 => by
    have e1 : a.eval p = v := y5 (ops := ops) hp (by simp [ho, Op.operands, Call.operands]) h2
    obtain ⟨hu, oa, c, ns, e2, hcell⟩ := hq G w0 R0 R a w h1 (fun t ht y hy => h2 t (d5 (by subst ht; exact List.mem_filterMap.2 ⟨.tmp t, by simp [ho, Op.operands, Call.operands], rfl⟩)) y hy)
    obtain ⟨hR, hue, xs, hown, hdc⟩ := h1.owned _ (G6 hi)
    have hb1 := Nat.le_of_ble_eq_true hpos
    have hb2 := Nat.le_of_ble_eq_true hpos2
    have hsum : es.length + fs.length ≤ 140737488355328 := Nat.le_trans (Nat.le_mul_of_pos_right _ hb2) hlen
    have hufs : ∀ x ∈ es ++ fs, x.length = sz := fun x hx => by
      rcases List.mem_append.1 hx with h | h
      · exact hue x h
      · exact hu x h
    by_cases hfs : fs = []
    · subst hfs
      have hrun : ∃ v', (Builtin.append_ #[t, t] o.type #[v, a.eval q]).run P w = .ok v' w ∧ v' = v := by
        refine ⟨v, ?_, rfl⟩
        rw [e2]
        rcases hown.2 with ⟨rfl, hz0⟩ | ⟨g, cap, cur, rfl, _, _, hnc, _⟩
        · cases oa with
          | none => simp [Builtin.append_, run_underlying ht, sizeOf, typeInfo, hinf, Builtin.lenOf, Builtin.firstCells, hz0]
          | some ad => simp [Builtin.append_, run_underlying ht, sizeOf, typeInfo, hinf, Builtin.lenOf, Builtin.firstCells, loadCells, loadCellsFrom, hz0]
        · cases oa with
          | none => simp [Builtin.append_, run_underlying ht, sizeOf, typeInfo, hinf, Builtin.lenOf, Builtin.firstCells, hnc, storeCells]
          | some ad => simp [Builtin.append_, run_underlying ht, sizeOf, typeInfo, hinf, Builtin.lenOf, Builtin.firstCells, loadCells, loadCellsFrom, hnc, storeCells]
      obtain ⟨v', hr, rfl⟩ := hrun
      have hex : (execOp a.eval o).run P w = .ok (.value v') w := by
        simp only [execOp, ho, resolve, invoke, builtin, Sem.run_bind, Sem.run_pure, Result.andThen_ok, List.map_toArray, List.map_cons, List.map_nil, e1, hr]
      unfold Oper.wp
      rw [hex, Oper.upon_value]
      have hset : own.set i (.arr v' e sz (es ++ [])) = own := by
        rw [List.append_nil]
        obtain ⟨hlt, he⟩ := List.getElem?_eq_some_iff.1 hi
        rw [← he]; exact List.set_getElem_self hlt
      exact ⟨v', v', R, trivial, rfl, by show Core G w0 R0 (own.set i (.arr v' e sz (es ++ []))) R w; rw [hset]; exact h1, RSub.refl _, rfl⟩
    · obtain ⟨ad, rfl, hn2, hn3⟩ := hcell hfs
      have hn1 : ns.length = fs.flatten.length := hn3.1
      have hnl : ns.length = fs.length * sz := by rw [hn1, X6 hu]
      have hone : ∀ u ∈ ns, u.oneCell' = true := fun u hm => by
        obtain ⟨j, hj⟩ := List.getElem?_of_mem hm
        have hjl : j < fs.flatten.length := by rw [← hn1]; exact (List.getElem?_eq_some_iff.1 hj).1
        exact (hn3.2 j u _ hj (List.getElem?_eq_getElem hjl)).2
      obtain ⟨v', w', hr, hown', hgr, _, hblk⟩ := run_append_own_at (P := P) w 0 t o.type e inf z sz by' ht hinf hz hsz hby hzs hb1 v es.length xs hown ad fs.length c ns hnl hn2 hone (by unfold maxLen; omega) hlen (Nat.zero_le _)
      have hex : (execOp a.eval o).run P w = .ok (.value v') w' := by
        simp only [execOp, ho, resolve, invoke, builtin, Sem.run_bind, Sem.run_pure, Result.andThen_ok, List.map_toArray, List.map_cons, List.map_nil, e1, e2, hr]
      unfold Oper.wp
      rw [hex, Oper.upon_value]
      refine ⟨v', v', R, trivial, rfl, AA3 h1 hi (fun b hb => ?_) ⟨fun b hb => ?_, hufs, xs ++ ns, ?_, ?_⟩ hgr, RSub.refl _, rfl⟩
      · simp only [Own.blk] at hb ⊢
        rcases hblk with h | h
        · exact .inl (by rw [← h]; exact hb)
        · rw [hb] at h; injection h with h; exact .inr h
      · rcases hblk with h | h
        · exact hR b (by rw [← h]; exact hb)
        · rw [hb] at h; injection h with h; subst h; exact x7 h1.rle
      · rw [J4]; exact hown'
      · rw [List.flatten_append]; exact k6 hdc hn3

theorem lt_tailm {α : Type} {f : α → List AV} {l : List α} {v : Value} {e : TypeId} {sz lo k : Nat} (hm : Own.arr v e sz (l.map f) ∈ own) (hlo : lo = k) (hk : k ≤ l.length) : LendTo own (AV.is (tailV lo sz v)) (AV.list sz ((l.drop k).map f)) := fun G w0 R0 R w u hc hu => by
  subst hlo
  cases (show u = tailV lo sz v from hu)
  obtain ⟨_, _, xs, hown, _⟩ := hc.owned _ hm
  obtain ⟨oa, c, hv, hnc⟩ := m9 hown
  have h1 := Q4 hm L7 G w0 R0 R w v hc rfl
  obtain ⟨oa', c', e1, k1, k2, k3, k4⟩ := h1
  subst e1
  have h9 := AF4 (R := lend own w R) (lo := lo) (hi := (l.map f).length) (es := l.map f) (oa := oa') rfl k1 k2 k3 k4 (by rw [A9]; exact hk) (Nat.le_refl _)
  rw [List.take_length, ← List.map_drop] at h9
  exact h9
end
end Go.AV

namespace Go.AV
open Go.Sort

theorem Al9 {R : RHeap} {w w' : World} {v : Value} {g : Nat} {t : TypeId} {sz : Nat} {es es' : List (List AV)} {xs : List Value} (hb : v.ownBlock = some g) (hr : RLe R w) (hR : R g = none) (hg : w.grownBy w' (some g))
    (hown : w'.ownsRow 0 t sz v es'.length xs) (hd : DenC R xs es'.flatten) (hsz : ∀ e ∈ es', e.length = sz) :
    Core (blksOf [.arr v t sz es]) w R [.arr v t sz es'] R w' := by
  refine ⟨hg.os, hg.tape, hg.output, hg.size, fun k hk hG => hg.block k hk fun e => hG ⟨_, List.mem_singleton.2 rfl, ?_⟩, fun b o hbo => ?_, fun _ _ => rfl, fun o ho => ?_, fun o ho b e => ?_, ?_⟩
  · injection e with e; subst e; exact hb
  · have h1 := hr b o hbo
    have hlt : b < w.heap.size := (Array.getElem?_eq_some_iff.1 h1).1
    rw [hg.block b hlt fun e => by injection e with e; subst e; rw [hR] at hbo; cases hbo]; exact h1
  · rw [List.mem_singleton.1 ho]
    exact ⟨fun b e => by rw [hb] at e; injection e with e; subst e; exact hR, hsz, xs, hown, hd⟩
  · rw [List.mem_singleton.1 ho] at e
    exact .inr ⟨_, List.mem_singleton.2 rfl, e⟩
  · simp [Own.blk, hb]
theorem Ae2 {R : RHeap} {w : World} {o : Own} (hr : RLe R w) (ho : Own.ok R w o) : Core (blksOf [o]) w R [o] R w :=
  ⟨rfl, rfl, rfl, Nat.le_refl _, fun _ _ _ => rfl, hr, fun _ _ => rfl, fun q hq => by rw [List.mem_singleton.1 hq]; exact ho, fun q hq b e => .inr ⟨q, hq, e⟩, by
    simp only [List.filterMap_cons, List.filterMap_nil]
    cases Own.blk o <;> simp⟩
theorem Au7 {R : RHeap} {vs ys : List Value} (h : DenC R vs (ys.map AV.is)) : vs = ys := by
  refine List.ext_getElem? fun i => ?_
  have hl := h.1
  rw [A9] at hl
  by_cases hi : i < ys.length
  · have h1 : vs[i]? = some vs[i] := List.getElem?_eq_getElem (by omega)
    have h2 : (ys.map AV.is)[i]? = some (AV.is ys[i]) := by rw [List.getElem?_map, List.getElem?_eq_getElem hi]; rfl
    have h3 := (h.2 i _ _ h1 h2).1
    rw [h1, List.getElem?_eq_getElem hi]
    exact congrArg some h3
  · rw [List.getElem?_eq_none (by omega), List.getElem?_eq_none (by omega)]
theorem Au8 {R : RHeap} {ys : List Value} (h : ∀ y ∈ ys, y.oneCell' = true) : DenC R ys (ys.map AV.is) := by
  refine ⟨by rw [A9], fun i v x hv hx => ?_⟩
  rw [List.getElem?_map, hv] at hx
  injection hx with hx; subst hx
  exact ⟨rfl, h v (G6 hv)⟩
theorem AQ7 {α : Type} (c : α → AV) (l : List α) : (l.map fun n => [c n]).flatten = l.map c := by
  induction l with
  | nil => rfl
  | cons x l ih => simp [ih]
theorem Au9 {α : Type} {c : α → List AV} {enc : α → List Value} (hc : ∀ x, c x = (enc x).map AV.is) (l : List α) : (l.map c).flatten = ((l.map enc).flatten).map AV.is := by
  induction l with
  | nil => rfl
  | cons x l ih => simp [ih, hc]
section ordered
variable {P : Program} {f : FuncId} {t : TypeId} {α : Type} [Inhabited α]
theorem row_own1 (enc : α → Value) (h1c : ∀ x, (enc x).oneCell' = true) (srt : List α → List α) (hsl : ∀ l, (srt l).length = l.length)
    (h1 : ∀ (blk off cap : Nat) (zs : List α) (w : World), Holds enc w blk off zs.toArray → blk < w.heap.size → zs.length < 4611686018427387904 →
      Calls P f #[.slice (some ⟨blk, off, none⟩) zs.length cap] w fun e w' => e = .returned (.tuple #[]) ∧ ∃ n os, w' = grow (putRow enc (Sort.ahead w n) blk off (srt zs).toArray) os)
    (h0 : ∀ (p : Option Addr) (cap : Nat) (w : World), Calls P f #[.slice p 0 cap] w fun e w' => e = .returned (.tuple #[]) ∧ w' = w)
    (v : Value) (l : List α) (hl : l.length < 4611686018427387904) :
    GSpec P f [AV.is v] [.arr v t 1 (l.map fun n => [AV.is (enc n)])] (fun _ : Unit => True) (fun _ => [.arr v t 1 ((srt l).map fun n => [AV.is (enc n)])]) (fun _ => AV.tup []) := by
  intro R w vs hr hd hok hnd
  have hvs : vs = [v] := by
    obtain ⟨hlen, hval⟩ := hd
    cases vs with
    | nil => simp at hlen
    | cons a r =>
      cases r with
      | nil => have h9 := hval 0 a (AV.is v) rfl rfl; rw [show a = v from h9]
      | cons b r => simp at hlen
  subst hvs
  have ho := hok _ (List.mem_singleton.2 rfl)
  obtain ⟨hR, hsz, xs, hown, hden⟩ := ho
  have hxs : xs = l.map enc := by
    rw [AQ7 (fun n => AV.is (enc n))] at hden
    have h9 : l.map (fun n => AV.is (enc n)) = (l.map enc).map AV.is := by simp
    rw [h9] at hden
    exact Au7 hden
  rw [A9] at hown
  rcases hown.2 with ⟨hv, hn⟩ | ⟨g, cap, cur, hv, _, hg, hnc, hcm, hcs, htk⟩
  · have hl0 : l = [] := List.length_eq_zero_iff.1 hn
    subst hv; subst hl0
    have hs0 : srt [] = [] := List.length_eq_zero_iff.1 (hsl [])
    refine (h0 none 0 w).mono ?_
    rintro e w' ⟨rfl, rfl⟩
    refine ⟨(), _, R, trivial, rfl, ⟨[], rfl, DenV.nil _⟩, ?_⟩
    rw [hs0]
    exact Ae2 hr (hok _ (List.mem_singleton.2 rfl))
  · subst hv
    have hgl : g < w.heap.size := (Array.getElem?_eq_some_iff.1 hg).1
    rw [Nat.mul_one] at htk hcs
    have hH : Holds enc w g 0 l.toArray := fun j hj => by
      have hj' : j < l.length := by simpa using hj
      have h9 : cur.toList[j]? = some (enc l[j]) := by
        rw [← List.getElem?_take_of_lt hj', htk, hxs, List.getElem?_map, List.getElem?_eq_getElem hj']; rfl
      refine ⟨?_, by simp [World.frozen?, hg]⟩
      simp only [World.cell?, hg, Nat.zero_add]
      simp only [Option.isSome_none, Bool.false_eq_true, if_false]
      rw [← Array.getElem?_toList, h9]
      simp [hj']
    refine (h1 g 0 cap l w hH hgl hl).mono ?_
    rintro e w' ⟨rfl, n, os, rfl⟩
    refine ⟨(), _, R, trivial, rfl, ⟨[], rfl, DenV.nil _⟩, ?_⟩
    have hgb : w.grownBy (grow (putRow enc (Sort.ahead w n) g 0 (srt l).toArray) os) (some g) := by
      refine ⟨rfl, rfl, rfl, by simp, fun k hk hne => ?_⟩
      rw [heap_grow_old _ _ (by simpa using hk)]
      have h9 : g ≠ k := fun e => hne (by rw [e])
      simp [putRow, mapBlock, Sort.ahead, Array.getElem?_modify, h9]
    have hheap : (grow (putRow enc (Sort.ahead w n) g 0 (srt l).toArray) os).heap[g]? = some (.cells (putCells enc 0 (srt l).toArray cur) t (0, 0)) := by
      rw [heap_grow_old _ _ (by simpa using hgl)]
      simp [putRow, mapBlock, Sort.ahead, Array.getElem?_modify, hg, onCells]
    refine Al9 (g := g) (xs := (srt l).map enc) rfl hr (hR g rfl) hgb ?_ ?_ ?_
    · rw [A9, hsl]
      refine ⟨by simp [hsl], .inr ⟨g, cap, _, rfl, Nat.zero_le _, hheap, hnc, hcm, by simp [putCells, hcs], ?_⟩⟩
      apply List.ext_getElem?
      intro j
      by_cases hj : j < l.length
      · rw [List.getElem?_take_of_lt (by omega), Array.getElem?_toList]
        have h8 : j < (srt l).length := by rw [hsl]; exact hj
        simp [putCells, h8, show j < cur.size by omega]
      · rw [List.getElem?_take_eq_none (by omega), List.getElem?_eq_none (by simp [hsl]; omega)]
    · rw [AQ7 (fun n => AV.is (enc n))]
      have h9 : (srt l).map (fun n => AV.is (enc n)) = ((srt l).map enc).map AV.is := by simp
      rw [h9]
      exact Au8 fun y hy => by obtain ⟨x, _, rfl⟩ := List.mem_map.1 hy; exact h1c x
    · intro e he; obtain ⟨x, _, rfl⟩ := List.mem_map.1 he; rfl
end ordered
end Go.AV

namespace Go.Proofs
open Go.Shelf
def Tryz.sortStrs_ren : Go.Shelf.Ren := ⟨fun | 190 => 189 | 125 => 102 | 258 => 221 | 128 => 157 | 129 => 158 | 302 => 232 | 303 => 233 | 304 => 234 | 305 => 235 | 306 => 236 | 307 => 237 | 308 => 238 | 309 => 239 | 310 => 240 | 333 => 242 | 329 => 194 | 330 => 195 | 334 => 243 | 335 => 244 | 336 => 160 | 344 => 245 | n => n, fun | 31 => 99 | 9 => 9 | 3 => 3 | 46 => 158 | 0 => 0 | 51 => 200 | 53 => 112 | 4 => 4 | 183 => 194 | 182 => 193 | 131 => 24 | 5 => 5 | 218 => 228 | 222 => 232 | 228 => 251 | 229 => 252 | n => n, fun | n => n⟩
theorem Tryz.sortStrs : Go.Proofs.Lays.n190 Tryz.prog Tryz.sortStrs_ren := {
  mixed := by kernel_rfl
  f125 := Tryz.func102.trans (congrArg some (by kernel_rfl))
  f128 := Tryz.func157.trans (congrArg some (by kernel_rfl))
  f129 := Tryz.func158.trans (congrArg some (by kernel_rfl))
  f190 := Tryz.func189.trans (congrArg some (by kernel_rfl))
  f258 := Tryz.func221.trans (congrArg some (by kernel_rfl))
  f302 := Tryz.func232.trans (congrArg some (by kernel_rfl))
  f303 := Tryz.func233.trans (congrArg some (by kernel_rfl))
  f304 := Tryz.func234.trans (congrArg some (by kernel_rfl))
  f305 := Tryz.func235.trans (congrArg some (by kernel_rfl))
  f306 := Tryz.func236.trans (congrArg some (by kernel_rfl))
  f307 := Tryz.func237.trans (congrArg some (by kernel_rfl))
  f308 := Tryz.func238.trans (congrArg some (by kernel_rfl))
  f309 := Tryz.func239.trans (congrArg some (by kernel_rfl))
  f310 := Tryz.func240.trans (congrArg some (by kernel_rfl))
  f329 := Tryz.func194.trans (congrArg some (by kernel_rfl))
  f330 := Tryz.func195.trans (congrArg some (by kernel_rfl))
  f333 := Tryz.func242.trans (congrArg some (by kernel_rfl))
  f334 := Tryz.func243.trans (congrArg some (by kernel_rfl))
  f335 := Tryz.func244.trans (congrArg some (by kernel_rfl))
  f336 := Tryz.func160.trans (congrArg some (by kernel_rfl))
  f344 := Tryz.func245.trans (congrArg some (by kernel_rfl))
  t0 := Tryz.underlying0
  a0 := Tryz.isAgg0
  z0 := Tryz.sizeOf0
  v0 := Tryz.zeroValue0
  t3 := Q7
  a3 := C1
  z3 := B9
  v3 := Tryz.zeroValue3
  t4 := V5
  a4 := K7
  z4 := K2
  v4 := Tryz.zeroValue4
  t5 := Tryz.underlying5
  a5 := Tryz.isAgg5
  z5 := Tryz.sizeOf5
  v5 := Tryz.zeroValue5
  t9 := K9
  a9 := F5
  z9 := E3
  v9 := Tryz.zeroValue9
  t31 := E5
  a31 := P7
  z31 := N3
  v31 := Tryz.zeroValue99
  t46 := Tryz.underlying158
  a46 := Tryz.isAgg158
  z46 := Tryz.sizeOf158
  v46 := Tryz.zeroValue158
  t51 := Tryz.underlying200
  a51 := Tryz.isAgg200
  z51 := Tryz.sizeOf200
  v51 := Tryz.zeroValue200
  t53 := Tryz.underlying112
  a53 := Tryz.isAgg112
  z53 := Tryz.sizeOf112
  v53 := Tryz.zeroValue112
  t131 := Tryz.underlying24
  a131 := Tryz.isAgg24
  z131 := Tryz.sizeOf24
  v131 := Tryz.zeroValue24
  t182 := Tryz.underlying193
  a182 := Tryz.isAgg193
  z182 := Tryz.sizeOf193
  v182 := Tryz.zeroValue193
  t183 := Tryz.underlying194
  a183 := Tryz.isAgg194
  z183 := Tryz.sizeOf194
  v183 := Tryz.zeroValue194
  t218 := Tryz.underlying228
  a218 := Tryz.isAgg228
  z218 := Tryz.sizeOf228
  v218 := Tryz.zeroValue228
  t222 := Tryz.underlying232
  a222 := Tryz.isAgg232
  z222 := Tryz.sizeOf232
  v222 := Tryz.zeroValue232
  t228 := Tryz.underlying251
  a228 := Tryz.isAgg251
  z228 := Tryz.sizeOf251
  v228 := Tryz.zeroValue251
  t229 := Tryz.underlying252
  a229 := Tryz.isAgg252
  z229 := Tryz.sizeOf252
  v229 := Tryz.zeroValue252 }
end Go.Proofs

namespace Go.Proofs.YtkegepoihkhihaaGreat
open Go Go.AV Go.M
attribute [local irreducible] OpW OpA OpS AWP FSpec ESpec GSpec OpE RetOk RetOkG RvDen Le Ev GuardIs SrcIs Int.tmod Int.tdiv IntKind.wrap
theorem Am0 (v : Value) (l : List Str) (hl : l.length < 4611686018427387904) : GSpec Tryz.prog 189 [AV.is v] [.arr v 9 1 (l.map fun s => [AV.str s])] (fun _ : Unit => True) (fun _ => [.arr v 9 1 ((sortS l).map fun s => [AV.str s])]) (fun _ => AV.tup []) :=
  row_own1 Go.Proofs.encStr (fun _ => rfl) sortS AK1
    (fun blk off cap zs w h1 h2 h3 => Any.slices_Sort_string Tryz.sortStrs blk off cap zs w h1 h2 h3) (fun p cap w => Any.slices_Sort_string_none Tryz.sortStrs p cap w) v l hl
end Go.Proofs.YtkegepoihkhihaaGreat

namespace Go.Proofs.YtkegepoihkhihaaGreat
open Go Go.AV Go.M
attribute [local irreducible] OpW OpA OpS AWP FSpec ESpec GSpec OpE RetOk RetOkG RvDen Le Ev GuardIs SrcIs Int.tmod Int.tdiv IntKind.wrap
theorem y9 {l : List Str} {i j : Nat} {s : Str} (h : l[i]? = some s) (hj : j = i * 1) : ((l.map fun s => [AV.str s]).flatten)[j]? = some (AV.str s) := by
  rw [hj, Nat.mul_one]
  have e : (l.map fun s => [AV.str s]).flatten = l.map AV.str := by
    clear h
    induction l with
    | nil => rfl
    | cons x l ih => simp [ih]
  rw [e, List.getElem?_map, h]; rfl
theorem Aa1 (v : Value) (l : List Str) (hl : l.length ≤ 4194304) : GSpec Tryz.prog 190 [AV.is v] [.arr v 9 1 (l.map fun s => [AV.str s])]
   (fun _ : Value => True) (fun v => [.arr v 9 1 ((cmpL l).map fun s => [AV.str s])]) (fun v => AV.is v) := by
 refine N7 Tryz.func190 rfl Tryz.ntmps190 rfl ?_
 refine A3 (A2 ?_)
 refine A1 rfl (B3 rfl P8) ?_
 refine A4 (A3 (A3 (A2 ?_)))
 refine A5 rfl ?_
 refine A1 rfl (e9 0 rfl E5 (A0 rfl) rfl) ?_
 refine A1 rfl (I4 rfl (A0 rfl) B5) ?_
 refine A4 ?_
 refine C3 (A0 rfl) ?_ ?_
 ·intro h8
  have k8 := of_decide_eq_true h8; try simp only [A9] at k8
  have hall : cmpL l = l := by (unfold cmpL; rw [AA8 (Nat.le_refl _) (fun i h1 h2 => by omega), List.take_length])
  refine A3 (A2 ?_)
  refine A5 rfl ?_
  refine B4 rfl ?_
  refine A4 ?_
  refine C2 ?_
  exact T1 [0] v (trivial) rfl (by first | exact congrArg (fun z => [Own.arr _ 9 1 (List.map (fun s => [AV.str s]) z)]) hall | (refine congrArg (fun z => [Own.arr _ 9 1 z]) ?_; exact (AZ1 hinv.2.2.2.2.1 hge (by omega)).symm)) (c5 rfl (B8 rfl (by first | rfl | (refine congrArg AV.bool ?_; simp_all; done))))
 intro h8
 have k8 := of_decide_eq_false h8; try simp only [A9] at k8
 refine C8 (A3 (A3 (A2 ?_)))
 refine A1 rfl (B3 rfl B5) ?_
 refine A4 (D0 ?_)
 refine H4 [(0, _)] _ (fun (k : Nat) => (1 ≤ k ∧ k ≤ l.length) ∧ ∀ i, 1 ≤ i → i < k → l[i]? ≠ l[i - 1]?) (fun (k : Nat) => []) (fun (k : Nat) => [(3, AV.int k)]) (fun (k : Nat) => l.length - k) (1) ?_ (H8 ⟨rfl, rfl, trivial⟩) ?_
 ·exact ⟨⟨Nat.le_refl _, by omega⟩, fun i h1 h2 => by omega⟩
 intro k hinv
 refine A3 (A3 (A2 ?_))
 refine A5 rfl ?_
 refine A5 rfl ?_
 refine A1 rfl (e9 0 rfl E5 (A0 rfl) rfl) ?_
 refine A1 rfl (I4 rfl (A0 rfl) (A0 rfl)) ?_
 refine A4 ?_
 refine C3 (A0 rfl) ?_ ?_
 ·intro h13
  have k13 := of_decide_eq_true h13; try simp only [A9] at k13
  have hlt : k < l.length := by omega
  obtain ⟨x, hx⟩ := get_some hlt
  obtain ⟨y, hy⟩ := get_some (show k - 1 < l.length by omega)
  refine C8 (A3 (D0 (A3 ?_)))
  refine I3 (by kernel_rfl) (by kernel_rfl) rfl ?_
  refine B1 rfl rfl (B7 rfl (A0 rfl)) ?_
  refine B1 rfl rfl (B7 rfl (A0 rfl)) ?_
  refine B1 rfl rfl (Y2 0 rfl E5 E3 (A0 rfl) rfl (A0 rfl) (by first | omega | (simp only [D1, A7, szR] at *; omega)) (by first | omega | (simp only [D1, A7, szR] at *; omega))) ?_
  refine B1 rfl rfl (g7 0 rfl (A0 rfl) rfl F5 (y9 hx (by omega))) ?_
  refine B1 rfl rfl (B7 rfl (A0 rfl)) ?_
  refine B1 rfl rfl (B7 rfl (A0 rfl)) ?_
  refine B1 rfl rfl (Q5 rfl (A0 rfl) B5 (by first | omega | (simp only [D1, A7, szR] at *; omega))) ?_
  refine B1 rfl rfl (Y2 0 rfl E5 E3 (A0 rfl) rfl (A0 rfl) (by first | omega | (simp only [D1, A7, szR] at *; omega)) (by first | omega | (simp only [D1, A7, szR] at *; omega))) ?_
  refine B1 rfl rfl (g7 0 rfl (A0 rfl) rfl F5 (y9 hy (by omega))) ?_
  refine B1 rfl rfl (p8 rfl (A0 rfl) (A0 rfl)) ?_
  refine P0 ?_
  refine C3 (A0 rfl) ?_ ?_
  ·intro h25
   have hxy : l[k]? = l[k - 1]? := by (rw [hx, hy]; have h9 := h25; simp at h9; rw [h9])
   have hinv0 := hinv
   refine A3 (A2 ?_)
   refine A5 rfl ?_
   refine A5 rfl ?_
   refine A1 rfl (Ai4 0 rfl E5 E3 (A0 rfl) rfl (A0 rfl) (by first | omega | (simp only [D1, A7, szR] at *; omega)) (by first | omega | (simp only [D1, A7, szR] at *; omega))) ?_
   refine B4 rfl ?_
   refine A4 (A3 (A3 (A2 ?_)))
   refine A1 rfl (B3 rfl B5) ?_
   refine A4 (D0 ?_)
   refine T5 [(0, _), (4, _), (10, _), (11, _), (12, _), (13, _), (16, _), (17, _), (18, _), (19, _), (20, _), (21, _), (22, _), (23, _), (24, _), (25, _), (26, _), (27, _), (28, _)] _ (fun (i : Nat) (j : Nat) (m : List Str) => 1 ≤ j ∧ k + j ≤ l.length ∧ i + 1 ≤ k + j ∧ m.length = l.length ∧ m.take i = cmpN l (k + j) ∧ m.drop (k + j - 1) = l.drop (k + j - 1)) (fun (i : Nat) (j : Nat) (m : List Str) => [.arr v 9 1 (m.map fun s => [AV.str s])]) (fun (i : Nat) (j : Nat) (m : List Str) => [(3, AV.int i), (5, AV.int j)]) (fun (i : Nat) (j : Nat) (m : List Str) => l.length - (k + j)) (k) (1) (l) ?_ (Q3 (by rfl) ⟨rfl, rfl, rfl, rfl, rfl, rfl, rfl, rfl, rfl, rfl, rfl, rfl, rfl, rfl, rfl, rfl, rfl, rfl, rfl, rfl, rfl, trivial⟩) ?_
   ·exact ⟨Nat.le_refl _, by omega, by omega, rfl, by rw [Ac4 (by omega) hxy, AA8 (by omega) hinv0.2], rfl⟩
   intro i j m hinv
   refine A3 (A3 (A2 ?_))
   refine A5 rfl ?_
   refine A5 rfl ?_
   refine A1 rfl (w_tlen 0 rfl E5 (A0 rfl) rfl) ?_
   refine A1 rfl (I4 rfl (A0 rfl) (A0 rfl)) ?_
   refine A4 ?_
   refine C3 (A0 rfl) ?_ ?_
   ·intro h32
    have k32 := of_decide_eq_true h32; try simp only [A9] at k32
    have hm := hinv.2.2.2.1
    have hlt1 : k + j < l.length := by omega
    obtain ⟨x1, hx1⟩ := get_some hlt1
    obtain ⟨y1, hy1⟩ := get_some (show k + j - 1 < l.length by omega)
    have hmx := AK0 hinv.2.2.2.2.2 hx1 (by omega)
    have hmy := AK0 hinv.2.2.2.2.2 hy1 (by omega)
    refine C8 (A3 (D0 (A3 ?_)))
    refine I3 (by kernel_rfl) (by kernel_rfl) rfl ?_
    refine B1 rfl rfl (B7 rfl (A0 rfl)) ?_
    refine B1 rfl rfl (B7 rfl (A0 rfl)) ?_
    refine B1 rfl rfl (Al8 0 rfl E5 E3 (A0 rfl) rfl (A0 rfl) (by omega) (by simp only [A9]; omega)) ?_
    refine B1 rfl rfl (g7 0 rfl (A0 rfl) rfl F5 (y9 hmx (by rw [show ((k : Int).toNat + (j : Int).toNat) = k + j by omega]))) ?_
    refine B1 rfl rfl (B7 rfl (A0 rfl)) ?_
    refine B1 rfl rfl (B7 rfl (A0 rfl)) ?_
    refine B1 rfl rfl (Q5 rfl (A0 rfl) B5 (by first | omega | (simp only [D1, A7, szR] at *; omega))) ?_
    refine B1 rfl rfl (Al8 0 rfl E5 E3 (A0 rfl) rfl (A0 rfl) (by omega) (by simp only [A9]; omega)) ?_
    refine B1 rfl rfl (g7 0 rfl (A0 rfl) rfl F5 (y9 hmy (by rw [show ((k : Int).toNat + ((j : Int) - 1).toNat) = k + j - 1 by omega]))) ?_
    refine B1 rfl rfl (Aj1 rfl (A0 rfl) (A0 rfl)) ?_
    refine P0 ?_
    refine C3 (A0 rfl) ?_ ?_
    ·intro h44
     refine A3 (A2 ?_)
     refine A5 rfl ?_
     refine A5 rfl ?_
     refine A5 rfl ?_
     refine A5 rfl ?_
     refine A1 rfl (Al8 0 rfl E5 E3 (A0 rfl) rfl (A0 rfl) (by omega) (by simp only [A9]; omega)) ?_
     refine A1 rfl (g7 0 rfl (A0 rfl) rfl F5 (y9 hmx (by rw [show ((k : Int).toNat + (j : Int).toNat) = k + j by omega]))) ?_
     refine A1 rfl (Y2 0 rfl E5 E3 (A0 rfl) rfl (A0 rfl) (by omega) (by simp only [A9]; omega)) ?_
     refine BA4 0 rfl rfl rfl (A0 rfl) (A0 rfl) (T4 _) rfl E3 rfl (by simp only [A9, Int.toNat_natCast]; omega) ?_
     refine A4 (A2 ?_)
     refine A5 rfl ?_
     refine A1 rfl (F6 rfl (A0 rfl) B5 (by first | omega | (simp only [D1, A7, szR] at *; omega))) ?_
     refine B4 rfl ?_
     refine A4 (A2 ?_)
     refine A5 rfl ?_
     refine A1 rfl (F6 rfl (A0 rfl) B5 (by first | omega | (simp only [D1, A7, szR] at *; omega))) ?_
     refine B4 rfl ?_
     refine A4 ?_
     refine S9 i j m (i + 1) (j + 1) (m.set i x1) ?_ ?_ (Q3 (by first | exact congrArg (fun z => [Own.arr v 9 1 z]) (List.map_set).symm | rfl) ⟨rfl, rfl, rfl, rfl, rfl, rfl, rfl, rfl, rfl, rfl, rfl, rfl, rfl, rfl, rfl, rfl, rfl, rfl, rfl, rfl, rfl, trivial⟩)
     ·exact cmp_keep hinv (by omega) hx1 hy1 (by simpa using h44)
     omega
    intro h44
    refine C8 (A2 ?_)
    refine A5 rfl ?_
    refine A1 rfl (F6 rfl (A0 rfl) B5 (by first | omega | (simp only [D1, A7, szR] at *; omega))) ?_
    refine B4 rfl ?_
    refine A4 ?_
    refine S9 i j m (i) (j + 1) (m) ?_ ?_ (Q3 (by first | exact congrArg (fun z => [Own.arr v 9 1 z]) (List.map_set).symm | rfl) ⟨rfl, rfl, rfl, rfl, rfl, rfl, rfl, rfl, rfl, rfl, rfl, rfl, rfl, rfl, rfl, rfl, rfl, rfl, rfl, rfl, rfl, trivial⟩)
    ·exact cmp_skip hinv (by omega) hx1 hy1 (by simpa using h44)
    omega
   intro h32
   have k32 := of_decide_eq_false h32; try simp only [A9] at k32
   have hm := hinv.2.2.2.1
   have hge : k + j = l.length := by omega
   refine G0 ?_
   refine A3 (A2 ?_)
   refine A5 rfl ?_
   refine A5 rfl ?_
   refine A1 rfl (Ai4 0 rfl E5 E3 (A0 rfl) rfl (A0 rfl) (by first | omega | (simp only [D1, A7, szR] at *; omega)) (by first | omega | (simp only [D1, A7, szR] at *; omega))) ?_
   refine BA7 0 rfl rfl rfl E5 Tryz.zeroValue9 rfl rfl (by decide) (A0 rfl) rfl (by simp only [A9, Int.toNat_natCast]; omega) ?_
   refine A4 (A3 (A2 ?_))
   refine A5 rfl ?_
   refine A5 rfl ?_
   refine sq_ahi 0 rfl rfl rfl rfl E5 E3 (A0 rfl) rfl (A0 rfl) (by omega) (by simp only [A9, J4, E6, List.length_replicate]; omega) ?_
   intro v59_1
   refine B4 rfl ?_
   refine A4 ?_
   refine C2 ?_
   exact T1 [0] v59_1 (trivial) rfl (by first | exact congrArg (fun z => [Own.arr _ 9 1 (List.map (fun s => [AV.str s]) z)]) hall | (refine congrArg (fun z => [Own.arr _ 9 1 z]) ?_; exact (AZ1 hinv.2.2.2.2.1 hge (by omega)).symm)) (c5 rfl (B8 rfl (by first | rfl | (refine congrArg AV.bool ?_; simp_all; done))))
  intro h25
  refine C8 (A2 ?_)
  refine A5 rfl ?_
  refine A1 rfl (F6 rfl (A0 rfl) B5 (by first | omega | (simp only [D1, A7, szR] at *; omega))) ?_
  refine B4 rfl ?_
  refine A4 ?_
  refine J3 k (k + 1) ?_ ?_ (H8 ⟨rfl, rfl, trivial⟩)
  ·exact ⟨⟨by omega, by omega⟩, fun i h1 h2 => if e : i = k then (by subst e; rw [hx, hy]; intro e; injection e with e; subst e; simp at h25) else hinv.2 i h1 (by omega)⟩
  omega
 intro h13
 have k13 := of_decide_eq_false h13; try simp only [A9] at k13
 have hall : cmpL l = l := by (unfold cmpL; rw [AA8 (Nat.le_refl _) (fun i h1 h2 => hinv.2 i h1 (by omega)), List.take_length])
 refine G0 ?_
 refine A3 (A2 ?_)
 refine A5 rfl ?_
 refine B4 rfl ?_
 refine A4 ?_
 refine C2 ?_
 exact T1 [0] v (trivial) rfl (by first | exact congrArg (fun z => [Own.arr _ 9 1 (List.map (fun s => [AV.str s]) z)]) hall | (refine congrArg (fun z => [Own.arr _ 9 1 z]) ?_; exact (AZ1 hinv.2.2.2.2.1 hge (by omega)).symm)) (c5 rfl (B8 rfl (by first | rfl | (refine congrArg AV.bool ?_; simp_all; done))))
end Go.Proofs.YtkegepoihkhihaaGreat
