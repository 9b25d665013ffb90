/- Texts of the claim, part 7. -/
import Derived.RangeFuncNested
import Derived.RangeFuncBound
import Derived.RangeFuncCalls
import Derived.RangeFuncLeaves
import Derived.RangeFuncBox
import Derived.Shelf.Abstract
import Derived.Shelf.RegionOpen
import Derived.WalkKit
import Derived.OwnWalkIn
import Derived.TacticsInMore
import Derived.LoopNIn
import Derived.LoopIn
import Derived.ProofKit
import Derived.OpenShut
import Derived.ShutString
import Derived.ChangeOld
import Derived.Sort.Grow
import Derived.Lib.LaidTab
import Derived.Lib.ItoaNum
import Derived.Lib.Split
import Derived.Lib.SplitLaws
import Derived.Lib.ConvBytes
import Derived.WideLaws
import Derived.SizedLaws
import Derived.Test.YtnlhbdkcgaeimaaGreatZFloor6

set_option linter.unusedVariables false
set_option linter.unusedSimpArgs false
set_option maxRecDepth 100000
set_option maxHeartbeats 2000000
namespace Go.M
open Go.AV
theorem AA3 {α : Type} (f : α → Nat) (l : List α) (x : α) : sizeL f (l ++ [x]) = sizeL f l + f x + 1 := by unfold sizeL; simp; omega
theorem Ag9 (s : Str) : ∀ l : List Str, sizeL (fun x : Str => x.length) (putS l s) ≤ sizeL (fun x : Str => x.length) l + s.length + 1
  | [] => by unfold putS sizeL; simp; omega
  | y :: l => by
    have ih := Ag9 s l
    have hc : ∀ (z : Str) (q : List Str), sizeL (fun x : Str => x.length) (z :: q) = sizeL (fun x : Str => x.length) q + z.length + 1 := fun z q => by unfold sizeL; simp; omega
    unfold putS
    split
    · rw [hc s]; omega
    · split
      · omega
      · rw [hc, hc]; omega
end Go.M
namespace Go.Proofs.YtnlhbdkcgaeimaaGreat
open Go Go.AV Go.M
attribute [local irreducible] OpW OpA OpS AWP FSpec ESpec GSpec OpE RetOk RetOkG RvDen Le Ev GuardIs SrcIs Int.tmod Int.tdiv IntKind.wrap bandI
theorem Aa4 (b : Nat) (code : List Int) (hcode : ByteL code) (c : TCur) (hp : c.p ≤ 2000000) : GSpec Tryz.prog 175 [AV.ptr b 0] [.box b 127 (curC code c)] (fun x : TCur × TRec × Value × Value => x.1.p ≤ c.p + 100 ∧ x.2.1.size ≤ 1000 ∧ 0 ≤ x.2.1.Lead ∧ x.2.1.Lead ≤ 3 ∧ 0 ≤ x.2.1.Time ∧ x.2.1.Time ≤ 100001) (fun x => .box b 127 (curC code x.1) :: TRec.ow x.2.1 x.2.2) (fun x => AV.agg (TRec.ocs x.2.1 x.2.2)) := by
 refine H5 Tryz.func175 rfl Tryz.ntmps175 rfl ?_
 refine A3 (A2 ?_)
 refine G0 rfl rfl rfl rfl Tryz.zeroValue49 rfl ?_
 intro b2
 refine A4 (A3 (A2 ?_))
 refine A5 rfl rfl rfl rfl rfl ?_
 refine I2 [1] rfl rfl rfl rfl Tryz.call100 rfl (T0 _ _ hcode _ _ (by omega) (by omega)) (A9 (A0 rfl) (A9 C4 D1)) rfl ?_
 intro x6 ok6
 refine A1 rfl rfl rfl (G7 rfl C4 (A0 rfl) (by first | omega | (simp only [A6, A7, B2, B7, A8, szR] at *; omega))) ?_
 refine A5 rfl rfl rfl rfl rfl ?_
 refine I2 [0] rfl rfl rfl rfl Tryz.call100 rfl (T0 _ _ hcode _ _ (by omega) (by omega)) (A9 (A0 rfl) (A9 C4 D1)) rfl ?_
 intro x9 ok9
 refine A1 rfl rfl rfl (G7 rfl C4 (A0 rfl) (by first | omega | (simp only [A6, A7, B2, B7, A8, szR] at *; omega))) ?_
 refine A5 rfl rfl rfl rfl rfl ?_
 refine I2 [0] rfl rfl rfl rfl Tryz.call100 rfl (T0 _ _ hcode _ _ (by omega) (by omega)) (A9 (A0 rfl) (A9 C4 D1)) rfl ?_
 intro x12 ok12
 refine A1 rfl rfl rfl (G7 rfl C4 (A0 rfl) (by first | omega | (simp only [A6, A7, B2, B7, A8, szR] at *; omega))) ?_
 refine A1 rfl rfl rfl (N0 (places := #[(0, 1), (1, 1), (2, 1), (3, 1), (4, 1), (5, 1), (6, 1)]) rfl B6 Tryz.zeroValue49 (fun w => by kernel_rfl) rfl (E0 (A0 rfl) (K9 _ _) (E0 (A0 rfl) (K9 _ _) (E0 (A0 rfl) (K9 _ _) H6))) rfl) ?_
 refine G0 rfl rfl rfl rfl Tryz.zeroValue49 rfl ?_
 intro b3
 refine D5 0 rfl rfl rfl (A0 rfl) (A0 rfl) (E2 _) rfl F7 rfl ?_
 refine A4 (A3 (A3 (A2 ?_)))
 refine A1 rfl rfl rfl (B3 0 rfl B6 rfl C0 (A0 rfl) rfl) ?_
 refine A1 rfl rfl rfl (B1 0 rfl (A0 rfl) rfl D0 rfl) ?_
 refine A4 (D7 (A3 (A2 ?_)))
 refine A1 rfl rfl rfl (M9 rfl (A0 rfl) C4) ?_
 refine B9 rfl rfl rfl rfl rfl ?_
 refine A4 ?_
 refine C7 (A0 rfl) ?_ ?_
 ·intro h24
  have k24 := L3 h24; try simp only [A6] at k24
  refine A3 (A2 ?_)
  refine A5 rfl rfl rfl rfl rfl ?_
  refine I2 [1] rfl rfl rfl rfl Tryz.call100 rfl (T0 _ _ hcode _ _ (by omega) (by omega)) (A9 (A0 rfl) (A9 C4 D1)) rfl ?_
  intro x27 ok27
  refine A1 rfl rfl rfl (B3 3 rfl B6 rfl C0 (A0 rfl) rfl) ?_
  refine I4 1 rfl rfl rfl (A0 rfl) (A0 rfl) (K9 _ _) rfl C0 rfl ?_
  refine A4 (A3 (A3 (A2 ?_)))
  refine A5 rfl rfl rfl rfl rfl ?_
  refine I2 [0] rfl rfl rfl rfl Tryz.call100 rfl (T0 _ _ hcode _ _ (by omega) (by omega)) (A9 (A0 rfl) (A9 C4 D1)) rfl ?_
  intro x30 ok30
  refine B9 rfl rfl rfl rfl rfl ?_
  refine A4 (D7 ?_)
  refine X8 9 1 ?_
  refine AWP.le (I8 [2, 1, 0] rfl) ?_
  refine o7 [(0, _), (2, _), (3, _)] _ (fun (n : Int) (cc : TCur) (l : List Str) (v : Value) => (0 ≤ n ∧ n + l.length ≤ 3) ∧ cc.p + 4 * n ≤ c.p + 22 ∧ SrtS l ∧ sizeL (fun x : Str => x.length) l + 70 * n ≤ 210) (fun (n : Int) (cc : TCur) (l : List Str) (v : Value) => [.box b3 49 [AV.int (1 + x6.2), AV.int (1 + x9.2), AV.int (1 + x12.2), AV.int x27.2, AV.is v, AV.nils, AV.bool false], .box b 127 (curC code cc), .arr v 9 1 (l.map fun t => [AV.str t])]) (fun (n : Int) (cc : TCur) (l : List Str) (v : Value) => [(4, AV.int n)]) (fun (n : Int) (cc : TCur) (l : List Str) (v : Value) => n.toNat) (x30.2) (x30.1) ([]) ((Value.slice none 0 0)) ?_ (S7 (by rfl) ⟨rfl, rfl, rfl, rfl, trivial⟩) ?_
  ·exact ⟨⟨by omega, by simp; omega⟩, by omega, List.Pairwise.nil, by simp [sizeL]; omega⟩
  intro n cc l v hinv
  refine A3 (A3 (A2 ?_))
  refine A5 rfl rfl rfl rfl rfl ?_
  refine A1 rfl rfl rfl (P8 rfl (A0 rfl) C4) ?_
  refine A4 ?_
  refine C7 (A0 rfl) ?_ ?_
  ·intro h32
   have k32 := of_decide_eq_true h32; try simp only [A6] at k32
   refine D2 (A3 (D7 ?_))
   refine T3 _ [(0, false), (1, false), (2, false), (3, true), (4, true)] (by kernel_rfl) (by kernel_rfl) rfl (W9 1) ?_
   refine F9 rfl rfl rfl (fun ext => B3 4 rfl B6 rfl L7 (A0 rfl) rfl) ?_
   refine F9 rfl rfl rfl (fun ext => B1 0 rfl (A0 rfl) rfl N9 rfl) ?_
   refine F9 rfl rfl rfl (fun ext => C6 rfl (A0 rfl)) ?_
   refine U1 rfl rfl rfl (f5 [1] rfl Tryz.call116 rfl (AZ3 _ _ hcode _ (by omega)) (A9 (A0 rfl) D1) rfl) (fun a _ => (by first | exact F8 rfl | exact F8 (List.append_assoc _ _ _) | exact J5)) ?_
   intro x38 ok38
   refine U1 rfl rfl rfl (f5 [1] rfl Tryz.call122 rfl (AK4 v l x38.2 hinv.2.2.1 (by omega)) (A9 (A0 rfl) (A9 (A0 rfl) D1)) rfl) (fun a _ => (by first | exact F8 rfl | exact F8 (List.append_assoc _ _ _) | exact J5)) ?_
   intro x39 ok39
   refine i3 ?_
   refine A1 rfl rfl rfl (B3 4 rfl B6 rfl L7 (A0 rfl) rfl) ?_
   refine Q8 3 rfl fun one_x39 => ?_
   refine I4 0 rfl rfl rfl (A0 rfl) (A0 rfl) (Q9 one_x39) rfl L7 rfl ?_
   refine A4 (A2 ?_)
   refine A5 rfl rfl rfl rfl rfl ?_
   refine A1 rfl rfl rfl (Q0 rfl (A0 rfl) C4 (by first | omega | (simp only [A6, A7, B2, B7, A8, szR] at *; omega))) ?_
   refine B9 rfl rfl rfl rfl rfl ?_
   refine A4 ?_
   refine X1 n cc l v (n - 1) (x38.1) (putS l x38.2) (x39) ?_ ?_ (Le.trans (I8 [0, 1, 1] rfl) (S7 (by rfl) ⟨rfl, rfl, rfl, rfl, trivial⟩))
   ·(have h9 := AV5 x38.2 l; have h8 := Ag9 x38.2 l; exact ⟨⟨by omega, by omega⟩, by omega, (AV4 hinv.2.2.1).1, by omega⟩)
   ·omega
  ·intro h32
   have k32 := of_decide_eq_false h32; try simp only [A6] at k32
   refine H3 ?_
   refine A3 (A2 ?_)
   refine A5 rfl rfl rfl rfl rfl ?_
   refine I2 [1] rfl rfl rfl rfl Tryz.call219 rfl (Ai6 _ _ hcode _ (by omega)) (A9 (A0 rfl) D1) rfl ?_
   intro x42 ok42
   refine A1 rfl rfl rfl (B3 5 rfl B6 rfl K2 (A0 rfl) rfl) ?_
   refine Q8 1 rfl fun one_x42_2_2 => ?_
   refine I4 2 rfl rfl rfl (A0 rfl) (A0 rfl) (Q9 one_x42_2_2) rfl K2 rfl ?_
   refine A4 (A3 (A2 ?_))
   refine A1 rfl rfl rfl (B3 4 rfl B6 rfl L7 (A0 rfl) rfl) ?_
   refine A1 rfl rfl rfl (B1 2 rfl (A0 rfl) rfl N9 rfl) ?_
   refine A1 rfl rfl rfl (U9 3 rfl E4 (A0 rfl) rfl) ?_
   refine A1 rfl rfl rfl (B3 5 rfl B6 rfl K2 (A0 rfl) rfl) ?_
   refine A1 rfl rfl rfl (B1 2 rfl (A0 rfl) rfl L8 rfl) ?_
   refine A1 rfl rfl rfl (U9 1 rfl F3 (A0 rfl) rfl) ?_
   refine A1 rfl rfl rfl (G7 rfl (A0 rfl) (A0 rfl) (by simp only [A6]; have h9 := O2 (f := TWrite.size) (l := x42.2.1); omega)) ?_
   refine A1 rfl rfl rfl (M9 rfl (A0 rfl) C4) ?_
   refine A4 ?_
   refine C7 (A0 rfl) ?_ ?_
   ·intro h51
    have k51 := L3 h51; try simp only [A6] at k51
    refine A2 ?_
    refine n4 rfl rfl rfl rfl E4 F5 Tryz.zeroValue9 rfl rfl rfl rfl (E0 (S1 (l := [97]) rfl) (P6 _) H6) rfl rfl ?_
    intro v52
    refine A1 rfl rfl rfl (B3 4 rfl B6 rfl L7 (A0 rfl) rfl) ?_
    refine Q8 0 rfl fun one_v52 => ?_
    refine I4 3 rfl rfl rfl (A0 rfl) (A0 rfl) (Q9 one_v52) rfl L7 rfl ?_
    refine A4 (A3 (A2 ?_))
    refine A1 rfl rfl rfl (F2 3 rfl (A0 rfl) rfl K7 F7 rfl) ?_
    refine D5 5 rfl rfl rfl (A0 rfl) (A0 rfl) (E2 _) rfl F7 rfl ?_
    refine A4 ?_
    refine C8 ?_
    (refine K1 [1, 0, 0] ((x42.1, ⟨1 + x6.2, 1 + x9.2, 1 + x12.2, x27.2, [[97]], x42.2.1, false⟩, v52, x42.2.2)) ?_ rfl (by first | (dsimp only; rfl) | rfl) (N1 rfl (J6 (ys := _) 5 rfl rfl K7 F7 rfl)); (dsimp only [TRec.size]; exact ⟨by omega, by first | (simp [sizeL]; done) | (simp only [sizeL, B2, B7, List.map_cons, List.map_nil, List.sum_cons, List.sum_nil] at *; omega) | omega, by omega, by omega, by omega, by omega⟩))
   ·intro h51
    have k51 := L2 h51; try simp only [A6] at k51
    refine D2 (A3 (A2 ?_))
    refine A1 rfl rfl rfl (F2 2 rfl (A0 rfl) rfl K7 F7 rfl) ?_
    refine D5 4 rfl rfl rfl (A0 rfl) (A0 rfl) (E2 _) rfl F7 rfl ?_
    refine A4 ?_
    refine C8 ?_
    (refine K1 [0, 2, 0] ((x42.1, ⟨1 + x6.2, 1 + x9.2, 1 + x12.2, x27.2, l, x42.2.1, false⟩, v, x42.2.2)) ?_ rfl (by first | (dsimp only; rfl) | rfl) (N1 rfl (J6 (ys := _) 4 rfl rfl K7 F7 rfl)); (dsimp only [TRec.size]; exact ⟨by omega, by first | (simp [sizeL]; done) | (simp only [sizeL, B2, B7, List.map_cons, List.map_nil, List.sum_cons, List.sum_nil] at *; omega) | omega, by omega, by omega, by omega, by omega⟩))
 ·intro h24
  have k24 := L2 h24; try simp only [A6] at k24
  refine A3 (A2 ?_)
  refine A1 rfl rfl rfl (M9 rfl (A0 rfl) C4) ?_
  refine B9 rfl rfl rfl rfl rfl ?_
  refine A4 ?_
  refine C7 (A0 rfl) ?_ ?_
  ·intro h54
   have k54 := L3 h54; try simp only [A6] at k54
   refine A2 ?_
   refine A1 rfl rfl rfl (B3 1 rfl B6 rfl C0 (A0 rfl) rfl) ?_
   refine I4 0 rfl rfl rfl (A0 rfl) C4 (K9 _ _) rfl C0 rfl ?_
   refine A4 (A3 (A2 ?_))
   refine A1 rfl rfl rfl (F2 0 rfl (A0 rfl) rfl K7 F7 rfl) ?_
   refine D5 2 rfl rfl rfl (A0 rfl) (A0 rfl) (E2 _) rfl F7 rfl ?_
   refine A4 ?_
   refine C8 ?_
   refine T6 9 1 ?_
   refine T6 77 3 ?_
   (refine K1 [3, 1, 0] ((x12.1, ⟨1 + x6.2, 0, 1 + x12.2, 0, [], [], false⟩, Value.slice none 0 0, Value.slice none 0 0)) ?_ rfl (by first | (dsimp only; rfl) | rfl) (N1 rfl (J6 (ys := _) 4 rfl rfl K7 F7 rfl)); (dsimp only [TRec.size]; exact ⟨by omega, by first | (simp [sizeL]; done) | (simp only [sizeL, B2, B7, List.map_cons, List.map_nil, List.sum_cons, List.sum_nil] at *; omega) | omega, by omega, by omega, by omega, by omega⟩))
  ·intro h54
   have k54 := L2 h54; try simp only [A6] at k54
   refine A3 (A2 ?_)
   refine A5 rfl rfl rfl rfl rfl ?_
   refine I2 [1] rfl rfl rfl rfl Tryz.call79 rfl (AB9 _ _ hcode _ _ (by omega) (by omega)) (A9 (A0 rfl) (A9 C4 D1)) rfl ?_
   intro x18 ok18
   refine A1 rfl rfl rfl (B3 6 rfl B6 rfl J4 (A0 rfl) rfl) ?_
   refine I4 1 rfl rfl rfl (A0 rfl) (A0 rfl) (V3 _) rfl J4 rfl ?_
   refine A4 (A3 (A2 ?_))
   refine A1 rfl rfl rfl (B3 6 rfl B6 rfl J4 (A0 rfl) rfl) ?_
   refine A1 rfl rfl rfl (B1 1 rfl (A0 rfl) rfl L0 rfl) ?_
   refine A1 rfl rfl rfl (M2 rfl (A0 rfl)) ?_
   refine A4 ?_
   refine C7 (A0 rfl) ?_ ?_
   ·intro h22
    refine A2 ?_
    refine A1 rfl rfl rfl (B3 2 rfl B6 rfl C0 (A0 rfl) rfl) ?_
    refine I4 1 rfl rfl rfl (A0 rfl) C4 (K9 _ _) rfl C0 rfl ?_
    refine A4 (A3 (A2 ?_))
    refine A1 rfl rfl rfl (F2 1 rfl (A0 rfl) rfl K7 F7 rfl) ?_
    refine D5 2 rfl rfl rfl (A0 rfl) (A0 rfl) (E2 _) rfl F7 rfl ?_
    refine A4 ?_
    refine C8 ?_
    refine T6 9 1 ?_
    refine T6 77 3 ?_
    (refine K1 [2, 1, 0] ((x18.1, ⟨1 + x6.2, 1 + x9.2, 0, 0, [], [], x18.2⟩, Value.slice none 0 0, Value.slice none 0 0)) ?_ rfl (by first | (dsimp only; rfl) | rfl) (N1 rfl (J6 (ys := _) 4 rfl rfl K7 F7 rfl)); (dsimp only [TRec.size]; exact ⟨by omega, by first | (simp [sizeL]; done) | (simp only [sizeL, B2, B7, List.map_cons, List.map_nil, List.sum_cons, List.sum_nil] at *; omega) | omega, by omega, by omega, by omega, by omega⟩))
   ·intro h22
    refine D2 (A3 (A2 ?_))
    refine A1 rfl rfl rfl (F2 1 rfl (A0 rfl) rfl K7 F7 rfl) ?_
    refine D5 2 rfl rfl rfl (A0 rfl) (A0 rfl) (E2 _) rfl F7 rfl ?_
    refine A4 ?_
    refine C8 ?_
    refine T6 9 1 ?_
    refine T6 77 3 ?_
    (refine K1 [2, 1, 0] ((x18.1, ⟨1 + x6.2, 1 + x9.2, 1 + x12.2, 0, [], [], x18.2⟩, Value.slice none 0 0, Value.slice none 0 0)) ?_ rfl (by first | (dsimp only; rfl) | rfl) (N1 rfl (J6 (ys := _) 4 rfl rfl K7 F7 rfl)); (dsimp only [TRec.size]; exact ⟨by omega, by first | (simp [sizeL]; done) | (simp only [sizeL, B2, B7, List.map_cons, List.map_nil, List.sum_cons, List.sum_nil] at *; omega) | omega, by omega, by omega, by omega, by omega⟩))
theorem Ai7 (b : Nat) (code : List Int) (hcode : ByteL code) (c : TCur) (hp : c.p ≤ 1000000) : GSpec Tryz.prog 80 [AV.ptr b 0] [.box b 127 (curC code c)] (fun x : TCur × TRec × Value × Value => x.1.p ≤ c.p + 120 ∧ x.2.1.size ≤ 1002 ∧ 0 ≤ x.2.1.Lead ∧ x.2.1.Lead ≤ 3 ∧ 0 ≤ x.2.1.Time ∧ x.2.1.Time ≤ 100001) (fun x => .box b 127 (curC code x.1) :: TRec.ow x.2.1 x.2.2) (fun x => AV.agg (TRec.ocs x.2.1 x.2.2)) := by
 refine H5 Tryz.func80 rfl Tryz.ntmps80 rfl ?_
 refine A3 (A2 ?_)
 refine G0 rfl rfl rfl rfl Tryz.zeroValue49 rfl ?_
 intro b2
 refine A4 (A3 (A2 ?_))
 refine A5 rfl rfl rfl rfl rfl ?_
 refine I2 [1] rfl rfl rfl rfl Tryz.call175 rfl (Aa4 _ _ hcode _ (by omega)) (A9 (A0 rfl) D1) rfl ?_
 intro x5 ok5
 have hsz := ok5.2.1
 have hld := ok5.2.2
 unfold TRec.size at hsz
 have hrl : x5.2.1.Reads.length ≤ 1000 := Nat.le_trans O2 (show sizeL (fun x : Str => x.length) x5.2.1.Reads ≤ 1000 by omega)
 refine G0 rfl rfl rfl rfl Tryz.zeroValue49 rfl ?_
 intro b3
 refine D5 0 rfl rfl rfl (A0 rfl) (A0 rfl) (E2 _) rfl F7 rfl ?_
 refine A4 (A3 (A3 (A2 ?_)))
 refine A5 rfl rfl rfl rfl rfl ?_
 refine I2 [1] rfl rfl rfl rfl Tryz.call100 rfl (T0 _ _ hcode _ _ (by omega) (by omega)) (A9 (A0 rfl) (A9 C4 D1)) rfl ?_
 intro x7 ok7
 refine A4 (D7 (A3 (A2 ?_)))
 refine A1 rfl rfl rfl (M9 rfl (A0 rfl) C4) ?_
 refine B9 rfl rfl rfl rfl rfl ?_
 refine A4 ?_
 refine C7 (A0 rfl) ?_ ?_
 ·intro h8
  have k8 := L3 h8; try simp only [A6] at k8
  refine A2 ?_
  refine A5 rfl rfl rfl rfl rfl ?_
  refine I2 [0] rfl rfl rfl rfl Tryz.call100 rfl (T0 _ _ hcode _ _ (by omega) (by omega)) (A9 (A0 rfl) (A9 C4 D1)) rfl ?_
  intro x11 ok11
  refine A1 rfl rfl rfl (B3 0 rfl B6 rfl C0 (A0 rfl) rfl) ?_
  refine I4 1 rfl rfl rfl (A0 rfl) (A0 rfl) (K9 _ _) rfl C0 rfl ?_
  refine A4 (A3 (A2 ?_))
  refine A1 rfl rfl rfl (F2 1 rfl (A0 rfl) rfl K7 F7 rfl) ?_
  refine D5 4 rfl rfl rfl (A0 rfl) (A0 rfl) (E2 _) rfl F7 rfl ?_
  refine A4 ?_
  refine C8 ?_
  (refine K1 [0, 1, 1] ((x11.1, ⟨x11.2, x5.2.1.Txn, x5.2.1.Time, x5.2.1.Lead, x5.2.1.Reads, x5.2.1.Writes, x5.2.1.Yes⟩, x5.2.2.1, x5.2.2.2)) ?_ rfl (by first | rfl | (unfold TRec.ow; dsimp only; rw [List.map_append]; rfl)) (N1 rfl (J6 (ys := _) 4 rfl rfl K7 F7 rfl)); (dsimp only [TRec.size]; exact ⟨by omega, by first | omega | (rw [AA3]; simp only [B2, B7]; omega), hld.1, hld.2.1, by first | exact hld.2.2.1 | (have h9 := ok23.2; simp at h9; omega), by first | exact hld.2.2.2 | (have h9 := ok23.2; simp at h9; omega)⟩))
 ·intro h8
  have k8 := L2 h8; try simp only [A6] at k8
  refine A3 (A2 ?_)
  refine A1 rfl rfl rfl (M9 rfl (A0 rfl) C4) ?_
  refine B9 rfl rfl rfl rfl rfl ?_
  refine A4 ?_
  refine C7 (A0 rfl) ?_ ?_
  ·intro h13
   have k13 := L3 h13; try simp only [A6] at k13
   refine A2 ?_
   refine A5 rfl rfl rfl rfl rfl ?_
   refine A1 rfl rfl rfl (L9 rfl N8 C0 Tryz.zeroValue3 rfl rfl rfl rfl (E0 C4 (K9 _ _) (E0 C4 (K9 _ _) (E0 C4 (K9 _ _) H6))) rfl rfl) ?_
   refine I2 [0] rfl rfl rfl rfl Tryz.call129 rfl (r7 _ _ hcode _ ([(0), (60), (61)] : List Int) (by decide) (by omega)) (A9 (A0 rfl) (A9 (A0 rfl) D1)) rfl ?_
   intro x17 ok17
   refine A1 rfl rfl rfl (B3 1 rfl B6 rfl C0 (A0 rfl) rfl) ?_
   refine I4 1 rfl rfl rfl (A0 rfl) (A0 rfl) (K9 _ _) rfl C0 rfl ?_
   refine A4 (A3 (A2 ?_))
   refine A1 rfl rfl rfl (F2 1 rfl (A0 rfl) rfl K7 F7 rfl) ?_
   refine D5 4 rfl rfl rfl (A0 rfl) (A0 rfl) (E2 _) rfl F7 rfl ?_
   refine A4 ?_
   refine C8 ?_
   (refine K1 [0, 1, 1] ((x17.1, ⟨x5.2.1.Kind, x17.2, x5.2.1.Time, x5.2.1.Lead, x5.2.1.Reads, x5.2.1.Writes, x5.2.1.Yes⟩, x5.2.2.1, x5.2.2.2)) ?_ rfl (by first | rfl | (unfold TRec.ow; dsimp only; rw [List.map_append]; rfl)) (N1 rfl (J6 (ys := _) 4 rfl rfl K7 F7 rfl)); (dsimp only [TRec.size]; exact ⟨by omega, by first | omega | (rw [AA3]; simp only [B2, B7]; omega), hld.1, hld.2.1, by first | exact hld.2.2.1 | (have h9 := ok23.2; simp at h9; omega), by first | exact hld.2.2.2 | (have h9 := ok23.2; simp at h9; omega)⟩))
  ·intro h13
   have k13 := L2 h13; try simp only [A6] at k13
   refine A3 (A2 ?_)
   refine A1 rfl rfl rfl (M9 rfl (A0 rfl) C4) ?_
   refine B9 rfl rfl rfl rfl rfl ?_
   refine A4 ?_
   refine C7 (A0 rfl) ?_ ?_
   ·intro h19
    have k19 := L3 h19; try simp only [A6] at k19
    refine A2 ?_
    refine A5 rfl rfl rfl rfl rfl ?_
    refine A1 rfl rfl rfl (L9 rfl N8 C0 Tryz.zeroValue3 rfl rfl rfl rfl (E0 C4 (K9 _ _) (E0 C4 (K9 _ _) (E0 C4 (K9 _ _) H6))) rfl rfl) ?_
    refine I2 [0] rfl rfl rfl rfl Tryz.call129 rfl (r7 _ _ hcode _ ([(0), (100000), (100001)] : List Int) (by decide) (by omega)) (A9 (A0 rfl) (A9 (A0 rfl) D1)) rfl ?_
    intro x23 ok23
    refine A1 rfl rfl rfl (B3 2 rfl B6 rfl C0 (A0 rfl) rfl) ?_
    refine I4 1 rfl rfl rfl (A0 rfl) (A0 rfl) (K9 _ _) rfl C0 rfl ?_
    refine A4 (A3 (A2 ?_))
    refine A1 rfl rfl rfl (F2 1 rfl (A0 rfl) rfl K7 F7 rfl) ?_
    refine D5 4 rfl rfl rfl (A0 rfl) (A0 rfl) (E2 _) rfl F7 rfl ?_
    refine A4 ?_
    refine C8 ?_
    (refine K1 [0, 1, 1] ((x23.1, ⟨x5.2.1.Kind, x5.2.1.Txn, x23.2, x5.2.1.Lead, x5.2.1.Reads, x5.2.1.Writes, x5.2.1.Yes⟩, x5.2.2.1, x5.2.2.2)) ?_ rfl (by first | rfl | (unfold TRec.ow; dsimp only; rw [List.map_append]; rfl)) (N1 rfl (J6 (ys := _) 4 rfl rfl K7 F7 rfl)); (dsimp only [TRec.size]; exact ⟨by omega, by first | omega | (rw [AA3]; simp only [B2, B7]; omega), hld.1, hld.2.1, by first | exact hld.2.2.1 | (have h9 := ok23.2; simp at h9; omega), by first | exact hld.2.2.2 | (have h9 := ok23.2; simp at h9; omega)⟩))
   ·intro h19
    have k19 := L2 h19; try simp only [A6] at k19
    refine A3 (A2 ?_)
    refine A1 rfl rfl rfl (M9 rfl (A0 rfl) C4) ?_
    refine B9 rfl rfl rfl rfl rfl ?_
    refine A4 ?_
    refine C7 (A0 rfl) ?_ ?_
    ·intro h25
     have k25 := L3 h25; try simp only [A6] at k25
     refine A2 ?_
     refine A1 rfl rfl rfl (B3 4 rfl B6 rfl L7 (A0 rfl) rfl) ?_
     refine A1 rfl rfl rfl (B1 1 rfl (A0 rfl) rfl N9 rfl) ?_
     refine A1 rfl rfl rfl (L9 rfl E4 F5 Tryz.zeroValue9 rfl rfl rfl rfl (E0 (S1 (l := [97]) rfl) (P6 _) H6) rfl rfl) ?_
     refine L5 (by' := 16) 2 rfl rfl rfl rfl E4 Tryz.type9 rfl rfl rfl rfl rfl rfl (A0 rfl) (A0 rfl) rfl (by simp only [A6, A8]; omega) ?_
     intro v30_1
     refine A1 rfl rfl rfl (B3 4 rfl B6 rfl L7 (A0 rfl) rfl) ?_
     refine Q8 2 rfl fun one_v30_1 => ?_
     refine I4 1 rfl rfl rfl (A0 rfl) (A0 rfl) (Q9 one_v30_1) rfl L7 rfl ?_
     refine A4 (A3 (A2 ?_))
     refine A1 rfl rfl rfl (F2 1 rfl (A0 rfl) rfl K7 F7 rfl) ?_
     refine D5 4 rfl rfl rfl (A0 rfl) (A0 rfl) (E2 _) rfl F7 rfl ?_
     refine A4 ?_
     refine C8 ?_
     (refine K1 [0, 1, 1] ((x7.1, ⟨x5.2.1.Kind, x5.2.1.Txn, x5.2.1.Time, x5.2.1.Lead, x5.2.1.Reads ++ [[97]], x5.2.1.Writes, x5.2.1.Yes⟩, v30_1, x5.2.2.2)) ?_ rfl (by first | rfl | (unfold TRec.ow; dsimp only; rw [List.map_append]; rfl)) (N1 rfl (J6 (ys := _) 4 rfl rfl K7 F7 rfl)); (dsimp only [TRec.size]; exact ⟨by omega, by first | omega | (rw [AA3]; simp only [B2, B7]; omega), hld.1, hld.2.1, by first | exact hld.2.2.1 | (have h9 := ok23.2; simp at h9; omega), by first | exact hld.2.2.2 | (have h9 := ok23.2; simp at h9; omega)⟩))
    ·intro h25
     have k25 := L2 h25; try simp only [A6] at k25
     refine D2 (A3 (A2 ?_))
     refine A1 rfl rfl rfl (F2 1 rfl (A0 rfl) rfl K7 F7 rfl) ?_
     refine D5 4 rfl rfl rfl (A0 rfl) (A0 rfl) (E2 _) rfl F7 rfl ?_
     refine A4 ?_
     refine C8 ?_
     (refine K1 [0, 1, 1] ((x7.1, x5.2.1, x5.2.2.1, x5.2.2.2)) ?_ rfl (by first | rfl | (unfold TRec.ow; dsimp only; rw [List.map_append]; rfl)) (N1 rfl (J6 (ys := _) 4 rfl rfl K7 F7 rfl)); (dsimp only [TRec.size]; exact ⟨by omega, by first | omega | (rw [AA3]; simp only [B2, B7]; omega), hld.1, hld.2.1, by first | exact hld.2.2.1 | (have h9 := ok23.2; simp at h9; omega), by first | exact hld.2.2.2 | (have h9 := ok23.2; simp at h9; omega)⟩))
end Go.Proofs.YtnlhbdkcgaeimaaGreat

set_option linter.unusedVariables false
set_option linter.unusedSimpArgs false
set_option maxRecDepth 100000
set_option maxHeartbeats 2000000
namespace Go.Proofs.YtnlhbdkcgaeimaaGreat
open Go Go.AV Go.M
attribute [local irreducible] OpW OpA OpS AWP FSpec ESpec GSpec OpE RetOk RetOkG RvDen Le Ev GuardIs SrcIs SrcE Int.tmod Int.tdiv IntKind.wrap bandI
theorem Ai8 (s : TState) (y : Value × Value) (hs : s.size ≤ 1048576) : GSpec Tryz.prog 107 [AV.agg (TState.ocs s y)] (TState.ow s y) (fun _ : Value × Value => True) (fun x => TState.ow s y ++ TState.ow s x) (fun x => AV.agg (TState.ocs s x)) := by
 obtain ⟨hs1, hs2, hs3, hs4, hs5⟩ := R9 hs
 refine H5 Tryz.func107 rfl Tryz.ntmps107 rfl ?_
 refine A3 (A2 ?_)
 refine M3 rfl rfl rfl rfl (A0 rfl) ?_
 intro b1
 refine G0 rfl rfl rfl rfl Tryz.zeroValue30 rfl ?_
 intro b2
 refine A4 (A3 ?_)
 refine V7 _ 11 (.pure 0 (.pure 1 (.pure 2 (.pure 3 (.pure 4 (.pure 6 (.pure 7 (.e2 5 (.e2 8 (.pure 9 (.e1 10 .nil)) 10 (.e1 8 (.pure 9 .nil))) 10 (.e1 5 (.e1 8 (.pure 9 .nil))))))))))) (by kernel_rfl) (by kernel_rfl) rfl j4 ?_
 refine J2 rfl rfl rfl (fun ext => B3 0 rfl B8 rfl C0 (A0 rfl) rfl) ?_
 refine J2 rfl rfl rfl (fun ext => B1 1 rfl (A0 rfl) rfl D0 rfl) ?_
 refine J2 rfl rfl rfl (fun ext => B3 1 rfl B8 rfl M7 (A0 rfl) rfl) ?_
 refine J2 rfl rfl rfl (fun ext => B1 1 rfl (A0 rfl) rfl P5 rfl) ?_
 refine J2 rfl rfl rfl (fun ext => E5 rfl Tryz.call208 rfl (AU1 s.Cells (by omega)) (A9 (A0 rfl) D1)) ?_
 refine J2 rfl rfl rfl (fun ext => B3 3 rfl B8 rfl J3 (A0 rfl) rfl) ?_
 refine J2 rfl rfl rfl (fun ext => B1 1 rfl (A0 rfl) rfl O0 rfl) ?_
 refine AJ5 ?_ ?_
 ·refine U0 rfl rfl rfl (a6 rfl E3 H2) (fun a _ => (by first | exact F8 rfl | exact F8 (List.append_assoc _ _ _) | exact J5)) ?_
  intro v11 _
  refine AJ5 ?_ ?_
  ·refine U0 rfl rfl rfl (e6 4 (fun _ => rfl) (AG4 (by' := 24) 4 rfl E3 Tryz.type39 rfl rfl rfl rfl rfl rfl (A0 rfl) (AW3 3 rfl (A0 rfl)) rfl (by simp only [B7, A6]; omega))) (fun a _ => (by first | exact F8 rfl | exact F8 (List.append_assoc _ _ _) | exact J5)) ?_
   intro v14_1 hone_v14_1
   have one_v14_1 := hone_v14_1.2
   refine J2 rfl rfl rfl (fun ext => N0 (places := #[(0, 1), (1, 1), (2, 1), (3, 1)]) rfl B8 Tryz.zeroValue30 (fun w => by kernel_rfl) rfl (E0 (A0 rfl) (K9 _ _) (E0 (A0 rfl) (S2 _ _) (E0 (A0 rfl) (Q9 one_v14_1) H6))) rfl) ?_
   refine X0 ?_
   refine U0 rfl rfl rfl (j5 rfl Tryz.zeroValue30 rfl) (fun a _ => (by first | exact F8 rfl | exact F8 (List.append_assoc _ _ _) | exact J5)) ?_
   intro b3 _
   refine d4 ?_
   refine D5 5 rfl rfl rfl (A0 rfl) (A0 rfl) (E2 _) rfl C1 rfl ?_
   refine A4 (A3 (A3 (A2 ?_)))
   refine A1 rfl rfl rfl (B3 2 rfl B8 rfl E9 (A0 rfl) rfl) ?_
   refine A1 rfl rfl rfl (B1 1 rfl (A0 rfl) rfl I3 rfl) ?_
   refine A1 rfl rfl rfl (U9 2 rfl C9 (A0 rfl) rfl) ?_
   refine A1 rfl rfl rfl (C6 rfl C4) ?_
   refine A4 (D7 ?_)
   refine X8 45 5 ?_
   refine AWP.le (I8 [6, 0] rfl) ?_
   refine R8 [(2, _), (3, _), (17, _), (18, _)] _ (fun (i : Nat) (v : Value) => i ≤ s.Held.length) (fun (i : Nat) (v : Value) => [.box b3 30 [AV.int s.Floor, AV.list 2 (s.Cells.map TCell.cs), AV.is v, AV.is v14_1], .arr v 45 5 ((s.Held.take i).map THeld.cs)]) (fun (i : Nat) (v : Value) => [(19, AV.int i)]) (fun (i : Nat) (v : Value) => s.Held.length - i) (0) ((Value.slice none 0 0)) ?_ (S7 (by rfl) ⟨rfl, rfl, rfl, rfl, rfl, trivial⟩) ?_
   ·exact Nat.zero_le _
   intro i v hinv
   refine A3 (A2 ?_)
   refine A1 rfl rfl rfl (K6 rfl (A0 rfl) (A0 rfl)) ?_
   refine A4 (A3 ?_)
   refine C7 (A0 rfl) ?_ ?_
   ·intro h20
    have k20 := of_decide_eq_true h20; try simp only [A6] at k20
    have hlt : i < s.Held.length := by omega
    obtain ⟨h, hx⟩ := get_some hlt
    obtain ⟨g1, g2, g3, g4, g5⟩ := U2 hs2 hx
    have hrow : (s.Held.map THeld.cs)[((i : Nat) : Int).toNat]? = some h.cs := by (rw [Int.toNat_natCast, List.getElem?_map, hx]; rfl)
    refine D2 (A3 (D7 (A3 (A2 ?_))))
    refine A1 rfl rfl rfl (U4 4 rfl C9 D3 (A0 rfl) rfl (A0 rfl) (by omega) (by first | omega | (simp only [A6]; omega))) ?_
    refine A1 rfl rfl rfl (q8 4 rfl (A0 rfl) rfl I0 D3 hrow (by decide)) ?_
    refine G0 rfl rfl rfl rfl Tryz.zeroValue45 rfl ?_
    intro b5
    refine D5 0 rfl rfl rfl (A0 rfl) (A0 rfl) (E2 _) rfl D3 rfl ?_
    refine A4 ?_
    refine P9 5 (by kernel_rfl) (by kernel_rfl) rfl ?_
    refine B5 rfl rfl (B3 2 rfl B8 rfl E9 (A0 rfl) rfl) ?_
    refine B5 rfl rfl (B1 1 rfl (A0 rfl) rfl I3 rfl) ?_
    refine B5 rfl rfl (F2 0 rfl (A0 rfl) rfl I0 D3 rfl) ?_
    refine B5 rfl rfl (E5 rfl Tryz.call106 rfl (i7 _ (by first | assumption | omega)) (A9 (A0 rfl) D1)) ?_
    refine B5 rfl rfl (L9 rfl C9 D3 Tryz.zeroValue45 rfl rfl rfl rfl (E0 (A0 rfl) (E2 _) H6) rfl rfl) ?_
    refine O1 ?_
    refine L5 (by' := 72) 2 rfl rfl rfl rfl C9 Tryz.type45 rfl rfl rfl rfl rfl rfl (A0 rfl) (A0 rfl) rfl (by simp only [A6, A7, A8]; omega) ?_
    intro v28_2
    refine A1 rfl rfl rfl (B3 2 rfl B8 rfl E9 (A0 rfl) rfl) ?_
    refine Q8 2 rfl fun one_v28_2 => ?_
    refine I4 1 rfl rfl rfl (A0 rfl) (A0 rfl) (Q9 one_v28_2) rfl E9 rfl ?_
    refine A4 (A2 ?_)
    refine A1 rfl rfl rfl (G7 rfl (A0 rfl) C4 (by first | omega | (simp only [A6, A7, B2, B7, A8, szR] at *; omega))) ?_
    refine A5 rfl rfl rfl rfl rfl ?_
    refine A4 ?_
    refine Q1 i v (i + 1) (v28_2) ?_ ?_ (Le.trans (I8 [0, 0, 0] rfl) (M1 1 (by exact congrArg (fun z => Own.box b3 30 [AV.int s.Floor, AV.list 2 (s.Cells.map TCell.cs), AV.is v28_2, AV.is v14_1] :: Own.arr v28_2 45 5 z :: _) (V1 (f := THeld.cs) hx)) ⟨rfl, rfl, rfl, rfl, rfl, trivial⟩))
    ·omega
    ·omega
   ·intro h20
    have k20 := of_decide_eq_false h20; try simp only [A6] at k20
    have hge : i = s.Held.length := by omega
    rw [hge, List.take_length]
    refine H3 ?_
    refine A3 (A2 ?_)
    refine A1 rfl rfl rfl (F2 0 rfl (A0 rfl) rfl D6 C1 rfl) ?_
    refine D5 2 rfl rfl rfl (A0 rfl) (A0 rfl) (E2 _) rfl C1 rfl ?_
    refine A4 ?_
    refine C8 ?_
    exact K1 [4, 4, 1, 3] (v, v14_1) (trivial) rfl (by rfl) (N1 rfl (J6 (ys := _) 2 rfl rfl D6 C1 rfl))
  ·refine U0 rfl rfl rfl (j5 rfl Tryz.zeroValue30 rfl) (fun a _ => (by first | exact F8 rfl | exact F8 (List.append_assoc _ _ _) | exact J5)) ?_
   intro b3 _
   refine X0 ?_
   refine U0 rfl rfl rfl (e6 4 (fun _ => rfl) (AG4 (by' := 24) 4 rfl E3 Tryz.type39 rfl rfl rfl rfl rfl rfl (A0 rfl) (AW3 3 rfl (A0 rfl)) rfl (by simp only [B7, A6]; omega))) (fun a _ => (by first | exact F8 rfl | exact F8 (List.append_assoc _ _ _) | exact J5)) ?_
   intro v14_3 hone_v14_3
   have one_v14_3 := hone_v14_3.2
   refine J2 rfl rfl rfl (fun ext => N0 (places := #[(0, 1), (1, 1), (2, 1), (3, 1)]) rfl B8 Tryz.zeroValue30 (fun w => by kernel_rfl) rfl (E0 (A0 rfl) (K9 _ _) (E0 (A0 rfl) (S2 _ _) (E0 (A0 rfl) (Q9 one_v14_3) H6))) rfl) ?_
   refine d4 ?_
   refine D5 5 rfl rfl rfl (A0 rfl) (A0 rfl) (E2 _) rfl C1 rfl ?_
   refine A4 (A3 (A3 (A2 ?_)))
   refine A1 rfl rfl rfl (B3 2 rfl B8 rfl E9 (A0 rfl) rfl) ?_
   refine A1 rfl rfl rfl (B1 1 rfl (A0 rfl) rfl I3 rfl) ?_
   refine A1 rfl rfl rfl (U9 2 rfl C9 (A0 rfl) rfl) ?_
   refine A1 rfl rfl rfl (C6 rfl C4) ?_
   refine A4 (D7 ?_)
   refine X8 45 5 ?_
   refine AWP.le (I8 [6, 0] rfl) ?_
   refine R8 [(2, _), (3, _), (17, _), (18, _)] _ (fun (i : Nat) (v : Value) => i ≤ s.Held.length) (fun (i : Nat) (v : Value) => [.box b3 30 [AV.int s.Floor, AV.list 2 (s.Cells.map TCell.cs), AV.is v, AV.is v14_3], .arr v 45 5 ((s.Held.take i).map THeld.cs)]) (fun (i : Nat) (v : Value) => [(19, AV.int i)]) (fun (i : Nat) (v : Value) => s.Held.length - i) (0) ((Value.slice none 0 0)) ?_ (S7 (by rfl) ⟨rfl, rfl, rfl, rfl, rfl, trivial⟩) ?_
   ·exact Nat.zero_le _
   intro i v hinv
   refine A3 (A2 ?_)
   refine A1 rfl rfl rfl (K6 rfl (A0 rfl) (A0 rfl)) ?_
   refine A4 (A3 ?_)
   refine C7 (A0 rfl) ?_ ?_
   ·intro h20
    have k20 := of_decide_eq_true h20; try simp only [A6] at k20
    have hlt : i < s.Held.length := by omega
    obtain ⟨h, hx⟩ := get_some hlt
    obtain ⟨g1, g2, g3, g4, g5⟩ := U2 hs2 hx
    have hrow : (s.Held.map THeld.cs)[((i : Nat) : Int).toNat]? = some h.cs := by (rw [Int.toNat_natCast, List.getElem?_map, hx]; rfl)
    refine D2 (A3 (D7 (A3 (A2 ?_))))
    refine A1 rfl rfl rfl (U4 4 rfl C9 D3 (A0 rfl) rfl (A0 rfl) (by omega) (by first | omega | (simp only [A6]; omega))) ?_
    refine A1 rfl rfl rfl (q8 4 rfl (A0 rfl) rfl I0 D3 hrow (by decide)) ?_
    refine G0 rfl rfl rfl rfl Tryz.zeroValue45 rfl ?_
    intro b5
    refine D5 0 rfl rfl rfl (A0 rfl) (A0 rfl) (E2 _) rfl D3 rfl ?_
    refine A4 ?_
    refine P9 5 (by kernel_rfl) (by kernel_rfl) rfl ?_
    refine B5 rfl rfl (B3 2 rfl B8 rfl E9 (A0 rfl) rfl) ?_
    refine B5 rfl rfl (B1 1 rfl (A0 rfl) rfl I3 rfl) ?_
    refine B5 rfl rfl (F2 0 rfl (A0 rfl) rfl I0 D3 rfl) ?_
    refine B5 rfl rfl (E5 rfl Tryz.call106 rfl (i7 _ (by first | assumption | omega)) (A9 (A0 rfl) D1)) ?_
    refine B5 rfl rfl (L9 rfl C9 D3 Tryz.zeroValue45 rfl rfl rfl rfl (E0 (A0 rfl) (E2 _) H6) rfl rfl) ?_
    refine O1 ?_
    refine L5 (by' := 72) 2 rfl rfl rfl rfl C9 Tryz.type45 rfl rfl rfl rfl rfl rfl (A0 rfl) (A0 rfl) rfl (by simp only [A6, A7, A8]; omega) ?_
    intro v28_4
    refine A1 rfl rfl rfl (B3 2 rfl B8 rfl E9 (A0 rfl) rfl) ?_
    refine Q8 2 rfl fun one_v28_4 => ?_
    refine I4 1 rfl rfl rfl (A0 rfl) (A0 rfl) (Q9 one_v28_4) rfl E9 rfl ?_
    refine A4 (A2 ?_)
    refine A1 rfl rfl rfl (G7 rfl (A0 rfl) C4 (by first | omega | (simp only [A6, A7, B2, B7, A8, szR] at *; omega))) ?_
    refine A5 rfl rfl rfl rfl rfl ?_
    refine A4 ?_
    refine Q1 i v (i + 1) (v28_4) ?_ ?_ (Le.trans (I8 [0, 0, 0] rfl) (M1 1 (by exact congrArg (fun z => Own.box b3 30 [AV.int s.Floor, AV.list 2 (s.Cells.map TCell.cs), AV.is v28_4, AV.is v14_3] :: Own.arr v28_4 45 5 z :: _) (V1 (f := THeld.cs) hx)) ⟨rfl, rfl, rfl, rfl, rfl, trivial⟩))
    ·omega
    ·omega
   ·intro h20
    have k20 := of_decide_eq_false h20; try simp only [A6] at k20
    have hge : i = s.Held.length := by omega
    rw [hge, List.take_length]
    refine H3 ?_
    refine A3 (A2 ?_)
    refine A1 rfl rfl rfl (F2 0 rfl (A0 rfl) rfl D6 C1 rfl) ?_
    refine D5 2 rfl rfl rfl (A0 rfl) (A0 rfl) (E2 _) rfl C1 rfl ?_
    refine A4 ?_
    refine C8 ?_
    exact K1 [4, 4, 1, 3] (v, v14_3) (trivial) rfl (by rfl) (N1 rfl (J6 (ys := _) 2 rfl rfl D6 C1 rfl))
 ·refine U0 rfl rfl rfl (j5 rfl Tryz.zeroValue30 rfl) (fun a _ => (by first | exact F8 rfl | exact F8 (List.append_assoc _ _ _) | exact J5)) ?_
  intro b3 _
  refine X0 ?_
  refine U0 rfl rfl rfl (a6 rfl E3 H2) (fun a _ => (by first | exact F8 rfl | exact F8 (List.append_assoc _ _ _) | exact J5)) ?_
  intro v11 _
  refine X0 ?_
  refine U0 rfl rfl rfl (e6 5 (fun _ => rfl) (AG4 (by' := 24) 5 rfl E3 Tryz.type39 rfl rfl rfl rfl rfl rfl (A0 rfl) (AW3 3 rfl (A0 rfl)) rfl (by simp only [B7, A6]; omega))) (fun a _ => (by first | exact F8 rfl | exact F8 (List.append_assoc _ _ _) | exact J5)) ?_
  intro v14_5 hone_v14_5
  have one_v14_5 := hone_v14_5.2
  refine J2 rfl rfl rfl (fun ext => N0 (places := #[(0, 1), (1, 1), (2, 1), (3, 1)]) rfl B8 Tryz.zeroValue30 (fun w => by kernel_rfl) rfl (E0 (A0 rfl) (K9 _ _) (E0 (A0 rfl) (S2 _ _) (E0 (A0 rfl) (Q9 one_v14_5) H6))) rfl) ?_
  refine d4 ?_
  refine D5 4 rfl rfl rfl (A0 rfl) (A0 rfl) (E2 _) rfl C1 rfl ?_
  refine A4 (A3 (A3 (A2 ?_)))
  refine A1 rfl rfl rfl (B3 2 rfl B8 rfl E9 (A0 rfl) rfl) ?_
  refine A1 rfl rfl rfl (B1 1 rfl (A0 rfl) rfl I3 rfl) ?_
  refine A1 rfl rfl rfl (U9 2 rfl C9 (A0 rfl) rfl) ?_
  refine A1 rfl rfl rfl (C6 rfl C4) ?_
  refine A4 (D7 ?_)
  refine X8 45 5 ?_
  refine AWP.le (I8 [5, 0] rfl) ?_
  refine R8 [(2, _), (3, _), (17, _), (18, _)] _ (fun (i : Nat) (v : Value) => i ≤ s.Held.length) (fun (i : Nat) (v : Value) => [.box b3 30 [AV.int s.Floor, AV.list 2 (s.Cells.map TCell.cs), AV.is v, AV.is v14_5], .arr v 45 5 ((s.Held.take i).map THeld.cs)]) (fun (i : Nat) (v : Value) => [(19, AV.int i)]) (fun (i : Nat) (v : Value) => s.Held.length - i) (0) ((Value.slice none 0 0)) ?_ (S7 (by rfl) ⟨rfl, rfl, rfl, rfl, rfl, trivial⟩) ?_
  ·exact Nat.zero_le _
  intro i v hinv
  refine A3 (A2 ?_)
  refine A1 rfl rfl rfl (K6 rfl (A0 rfl) (A0 rfl)) ?_
  refine A4 (A3 ?_)
  refine C7 (A0 rfl) ?_ ?_
  ·intro h20
   have k20 := of_decide_eq_true h20; try simp only [A6] at k20
   have hlt : i < s.Held.length := by omega
   obtain ⟨h, hx⟩ := get_some hlt
   obtain ⟨g1, g2, g3, g4, g5⟩ := U2 hs2 hx
   have hrow : (s.Held.map THeld.cs)[((i : Nat) : Int).toNat]? = some h.cs := by (rw [Int.toNat_natCast, List.getElem?_map, hx]; rfl)
   refine D2 (A3 (D7 (A3 (A2 ?_))))
   refine A1 rfl rfl rfl (U4 4 rfl C9 D3 (A0 rfl) rfl (A0 rfl) (by omega) (by first | omega | (simp only [A6]; omega))) ?_
   refine A1 rfl rfl rfl (q8 4 rfl (A0 rfl) rfl I0 D3 hrow (by decide)) ?_
   refine G0 rfl rfl rfl rfl Tryz.zeroValue45 rfl ?_
   intro b5
   refine D5 0 rfl rfl rfl (A0 rfl) (A0 rfl) (E2 _) rfl D3 rfl ?_
   refine A4 ?_
   refine P9 5 (by kernel_rfl) (by kernel_rfl) rfl ?_
   refine B5 rfl rfl (B3 2 rfl B8 rfl E9 (A0 rfl) rfl) ?_
   refine B5 rfl rfl (B1 1 rfl (A0 rfl) rfl I3 rfl) ?_
   refine B5 rfl rfl (F2 0 rfl (A0 rfl) rfl I0 D3 rfl) ?_
   refine B5 rfl rfl (E5 rfl Tryz.call106 rfl (i7 _ (by first | assumption | omega)) (A9 (A0 rfl) D1)) ?_
   refine B5 rfl rfl (L9 rfl C9 D3 Tryz.zeroValue45 rfl rfl rfl rfl (E0 (A0 rfl) (E2 _) H6) rfl rfl) ?_
   refine O1 ?_
   refine L5 (by' := 72) 2 rfl rfl rfl rfl C9 Tryz.type45 rfl rfl rfl rfl rfl rfl (A0 rfl) (A0 rfl) rfl (by simp only [A6, A7, A8]; omega) ?_
   intro v28_6
   refine A1 rfl rfl rfl (B3 2 rfl B8 rfl E9 (A0 rfl) rfl) ?_
   refine Q8 2 rfl fun one_v28_6 => ?_
   refine I4 1 rfl rfl rfl (A0 rfl) (A0 rfl) (Q9 one_v28_6) rfl E9 rfl ?_
   refine A4 (A2 ?_)
   refine A1 rfl rfl rfl (G7 rfl (A0 rfl) C4 (by first | omega | (simp only [A6, A7, B2, B7, A8, szR] at *; omega))) ?_
   refine A5 rfl rfl rfl rfl rfl ?_
   refine A4 ?_
   refine Q1 i v (i + 1) (v28_6) ?_ ?_ (Le.trans (I8 [0, 0, 0] rfl) (M1 1 (by exact congrArg (fun z => Own.box b3 30 [AV.int s.Floor, AV.list 2 (s.Cells.map TCell.cs), AV.is v28_6, AV.is v14_5] :: Own.arr v28_6 45 5 z :: _) (V1 (f := THeld.cs) hx)) ⟨rfl, rfl, rfl, rfl, rfl, trivial⟩))
   ·omega
   ·omega
  ·intro h20
   have k20 := of_decide_eq_false h20; try simp only [A6] at k20
   have hge : i = s.Held.length := by omega
   rw [hge, List.take_length]
   refine H3 ?_
   refine A3 (A2 ?_)
   refine A1 rfl rfl rfl (F2 0 rfl (A0 rfl) rfl D6 C1 rfl) ?_
   refine D5 2 rfl rfl rfl (A0 rfl) (A0 rfl) (E2 _) rfl C1 rfl ?_
   refine A4 ?_
   refine C8 ?_
   exact K1 [4, 4, 1, 3] (v, v14_5) (trivial) rfl (by rfl) (N1 rfl (J6 (ys := _) 2 rfl rfl D6 C1 rfl))
theorem As2 (s : TState) (y : Value × Value) (n : Int) (hlen : s.Held.length ≤ 1048576) : GSpec Tryz.prog 105 [AV.agg (TState.ocs s y), AV.int n] (TState.ow s y) (fun _ : Unit => True) (fun _ => TState.ow s y) (fun _ => AV.tup [AV.agg (heldFO s.Held n).1.cs, AV.bool (heldFO s.Held n).2]) := by
 obtain ⟨he, hhe⟩ : ∃ he, heldFO s.Held n = he := ⟨_, rfl⟩
 rw [hhe]
 refine H5 Tryz.func105 rfl Tryz.ntmps105 rfl ?_
 refine A3 (A2 ?_)
 refine M3 rfl rfl rfl rfl (A0 rfl) ?_
 intro b2
 refine G0 rfl rfl rfl rfl Tryz.zeroValue45 rfl ?_
 intro b4
 refine A1 rfl rfl rfl (C3 rfl F4) ?_
 refine A4 (A3 (A3 (A2 ?_)))
 refine A1 rfl rfl rfl (B3 2 rfl B8 rfl E9 (A0 rfl) rfl) ?_
 refine A1 rfl rfl rfl (B1 1 rfl (A0 rfl) rfl I3 rfl) ?_
 refine A1 rfl rfl rfl (U9 2 rfl C9 (A0 rfl) rfl) ?_
 refine A1 rfl rfl rfl (C6 rfl C4) ?_
 refine A4 (D7 ?_)
 refine J9 [(1, _), (4, _), (9, _), (10, _)] _ (fun (i : Nat) => i ≤ s.Held.length ∧ ∀ j y, j < i → s.Held[j]? = some y → (y.Txn == n) = false) (fun (i : Nat) => []) (fun (i : Nat) => [(11, AV.int i)]) (fun (i : Nat) => s.Held.length - i) (0) ?_ (J8 ⟨rfl, rfl, rfl, rfl, rfl, trivial⟩) ?_
 ·exact ⟨Nat.zero_le _, fun j y hj => by omega⟩
 intro i hinv
 refine A3 (A2 ?_)
 refine A1 rfl rfl rfl (K6 rfl (A0 rfl) (A0 rfl)) ?_
 refine A4 (A3 ?_)
 refine C7 (A0 rfl) ?_ ?_
 ·intro h12
  have k12 := of_decide_eq_true h12; try simp only [A6] at k12
  have hlt : i < s.Held.length := by omega
  obtain ⟨x, hx⟩ := get_some hlt
  have hrow : (s.Held.map THeld.cs)[((i : Nat) : Int).toNat]? = some x.cs := by (rw [Int.toNat_natCast, List.getElem?_map, hx]; rfl)
  refine D2 (A3 (D7 (A3 (A2 ?_))))
  refine A1 rfl rfl rfl (U4 2 rfl C9 D3 (A0 rfl) rfl (A0 rfl) (by omega) (by first | omega | (simp only [A6]; omega))) ?_
  refine A1 rfl rfl rfl (q8 2 rfl (A0 rfl) rfl I0 D3 hrow (by decide)) ?_
  refine G0 rfl rfl rfl rfl Tryz.zeroValue45 rfl ?_
  intro b7
  refine D5 0 rfl rfl rfl (A0 rfl) (A0 rfl) (E2 _) rfl D3 rfl ?_
  refine A4 (A3 (A2 ?_))
  refine A1 rfl rfl rfl (B3 0 rfl F1 rfl C0 (A0 rfl) rfl) ?_
  refine A1 rfl rfl rfl (B1 0 rfl (A0 rfl) rfl D0 rfl) ?_
  refine A5 rfl rfl rfl rfl rfl ?_
  refine A1 rfl rfl rfl (M9 rfl (A0 rfl) (A0 rfl)) ?_
  refine A4 ?_
  refine C7 (A0 rfl) ?_ ?_
  ·intro h18
   have k18 := L3 h18; try simp only [A6] at k18
   have he9 : he = (x, true) := by (rw [← hhe]; unfold heldFO findH; rw [AC4 hx h18 hinv.2])
   rw [he9]
   refine A3 (A2 ?_)
   refine A1 rfl rfl rfl (F2 0 rfl (A0 rfl) rfl I0 D3 rfl) ?_
   refine D5 1 rfl rfl rfl (A0 rfl) (A0 rfl) (E2 _) rfl D3 rfl ?_
   refine A1 rfl rfl rfl (C3 rfl F4) ?_
   refine A4 ?_
   refine C8 ?_
   exact K1 [3, 3] () (trivial) rfl (by rfl) (T2 rfl (by decide) (E6 (J6 (ys := _) 1 rfl rfl I0 D3 rfl) (E6 (C5 rfl (by rfl)) K8)))
  ·intro h18
   have k18 := L2 h18; try simp only [A6] at k18
   refine D2 (A2 ?_)
   refine A1 rfl rfl rfl (G7 rfl (A0 rfl) C4 (by first | omega | (simp only [A6, A7, B2, B7, A8, szR] at *; omega))) ?_
   refine A5 rfl rfl rfl rfl rfl ?_
   refine A4 ?_
   refine L4 i (i + 1) ?_ ?_ (T9 1 ⟨rfl, rfl, rfl, rfl, rfl, trivial⟩)
   ·exact ⟨by omega, fun j y hj hy => if hji : j < i then hinv.2 j y hji hy else (by have e : j = i := (by omega); subst e; rw [hx] at hy; injection hy with hy; subst hy; exact h18)⟩
   ·omega
 ·intro h12
  have k12 := of_decide_eq_false h12; try simp only [A6] at k12
  have hge : s.Held.length ≤ i := by omega
  have he9 : he = (zHeld, false) := by (rw [← hhe]; unfold heldFO findH; rw [AW5 fun j y hy => hinv.2 j y (Nat.lt_of_lt_of_le (List.getElem?_eq_some_iff.1 hy).1 hge) hy])
  rw [he9]
  refine H3 ?_
  refine A3 (A2 ?_)
  refine A1 rfl rfl rfl (N0 (places := #[(0, 1), (1, 1), (2, 1), (3, 1), (4, 1)]) rfl F1 Tryz.zeroValue45 (fun w => by kernel_rfl) rfl H6 rfl) ?_
  refine D5 0 rfl rfl rfl (A0 rfl) (A0 rfl) (E2 _) rfl D3 rfl ?_
  refine A1 rfl rfl rfl (C3 rfl F4) ?_
  refine A4 ?_
  refine C8 ?_
  refine S8 0 3 1 rfl rfl (T7 2 rfl rfl (T7 3 rfl rfl O5)) ?_
  refine S8 0 4 3 rfl rfl (T7 2 rfl rfl (T7 3 rfl rfl O5)) ?_
  exact K1 [2, 2] () (trivial) rfl (by rfl) (T2 rfl (by decide) (E6 (J6 (ys := _) 0 rfl rfl I0 D3 rfl) (E6 (C5 rfl (by rfl)) K8)))
theorem Ay2 (s : TState) (y : Value × Value) (r : TRec) (g : SO s) (hs : s.size ≤ 300000) (hrs : r.size ≤ 300000) : GSpec Tryz.prog 103 [AV.agg (TState.ocs s y), AV.agg r.cs] (TState.ow s y) (fun _ : Value × Value => True) (fun x => TState.ow s y ++ TState.ow (applyS s r).1 x) (fun x => AV.tup [AV.agg (TState.ocs (applyS s r).1 x), AV.bool (applyS s r).2]) := by
 obtain ⟨hs1, hs2, hs3, hs4, hs5⟩ := R9 hs
 have hgc := g.cells
 have hgh := g.hsort
 have hgt := g.tsort
 have hr2 : r.size = sizeL (fun x : Str => x.length) r.Reads + sizeL TWrite.size r.Writes := rfl
 have hr3 := O2 (f := fun x : Str => x.length) (l := r.Reads)
 have hr4 := O2 (f := TWrite.size) (l := r.Writes)
 have hho := AE9 s.Held r.Txn
 have hto := Ag7 s.Told r.Txn
 obtain ⟨h, hh⟩ : ∃ h, (heldFO s.Held r.Txn).1 = h := ⟨_, rfl⟩
 have hf1 : hasH s.Held r.Txn = true → findH s.Held r.Txn = some h := fun e => by
  rw [← hho] at e
  unfold heldFO at hh e
  cases hf : findH s.Held r.Txn with
  | none => rw [hf] at e; cases e
  | some x => rw [hf] at hh; exact congrArg some hh
 have hf0 : hasH s.Held r.Txn = false → findH s.Held r.Txn = none := fun e => r6.2 e
 have hhs : hasH s.Held r.Txn = true → h.size ≤ 300000 ∧ 1 ≤ h.Time := fun e => by
  obtain ⟨h1, h2⟩ := o4 (hf1 e)
  obtain ⟨i, hi⟩ := List.getElem?_of_mem h1
  exact ⟨(U2 hs2 hi).1, g.times h h1⟩
 have hlen := AG6 s.Held r.Txn
 have hll : (lessH s.Held r.Txn).length ≤ s.Held.length := List.length_filter_le _ _
 refine H5 Tryz.func103 rfl Tryz.ntmps103 rfl ?_
 refine A3 (A2 ?_)
 refine M3 rfl rfl rfl rfl (A0 rfl) ?_
 intro b2
 refine M3 rfl rfl rfl rfl (A0 rfl) ?_
 intro b3
 refine G0 rfl rfl rfl rfl Tryz.zeroValue30 rfl ?_
 intro b4
 refine A1 rfl rfl rfl (C3 rfl F4) ?_
 refine A4 (A3 (A2 ?_))
 refine A1 rfl rfl rfl (F2 2 rfl (A0 rfl) rfl D6 C1 rfl) ?_
 refine I2 [3, 3] rfl rfl rfl rfl Tryz.call107 rfl (Ai8 s y (by omega)) (A9 (A0 rfl) D1) rfl ?_
 intro x14 ok14
 refine G0 rfl rfl rfl rfl Tryz.zeroValue30 rfl ?_
 intro b6
 refine D5 0 rfl rfl rfl (A0 rfl) (A0 rfl) (E2 _) rfl C1 rfl ?_
 refine A4 (A3 ?_)
 refine L1 (by first | (simp only [TState.ow, TState.ocs, pick, O9, O6, O7, O3, N5, List.nil_append, P0, P1, List.append_nil, O4, List.take_zero, O8, List.drop_zero]; exact rfl) | exact rfl) ?_
 refine A2 ?_
 refine A1 rfl rfl rfl (F2 7 rfl (A0 rfl) rfl D6 C1 rfl) ?_
 refine A1 rfl rfl rfl (B3 1 rfl B6 rfl C0 (A0 rfl) rfl) ?_
 refine A1 rfl rfl rfl (B1 6 rfl (A0 rfl) rfl D0 rfl) ?_
 refine I2 [1, 1] rfl rfl rfl rfl Tryz.call105 rfl (As2 s y r.Txn (by omega)) (A9 (A0 rfl) (A9 (A0 rfl) D1)) rfl ?_
 intro x19 ok19
 refine A5 rfl rfl rfl rfl rfl ?_
 refine A1 rfl rfl rfl (F6 rfl (A0 rfl) rfl) ?_
 refine A1 rfl rfl rfl (F6 rfl (A0 rfl) rfl) ?_
 refine G0 rfl rfl rfl rfl Tryz.zeroValue45 rfl ?_
 intro b7
 refine D5 0 rfl rfl rfl (A0 rfl) (A0 rfl) (E2 _) rfl D3 rfl ?_
 refine B9 rfl rfl rfl rfl rfl ?_
 refine A4 (A3 ?_)
 refine L1 (by first | (simp only [TState.ow, TState.ocs, pick, O9, O6, O7, O3, N5, List.nil_append, P0, P1, List.append_nil, O4, List.take_zero, O8, List.drop_zero]; exact rfl) | exact rfl) ?_
 refine A2 ?_
 refine A1 rfl rfl rfl (F2 8 rfl (A0 rfl) rfl D6 C1 rfl) ?_
 refine A1 rfl rfl rfl (B3 1 rfl B6 rfl C0 (A0 rfl) rfl) ?_
 refine A1 rfl rfl rfl (B1 7 rfl (A0 rfl) rfl D0 rfl) ?_
 refine A1 rfl rfl rfl (V8 rfl Tryz.call104 rfl (AQ0 s r.Txn (by omega)) (Z0 (D9 (Z1 (D9 (G1 _ _) (D9 (G3 _) (D9 (G1 _ _) G2)))) (D9 (G3 _) G2))) (N3 (g9 (A0 rfl) (X7 (G8 L6 (G8 L6 (G8 (M6 (G6 (i := 1) rfl) J0) (G8 (M6 (G6 (i := 2) rfl) J0) T8)))))) (N3 (evb (A0 rfl)) U3))) ?_
 refine A5 rfl rfl rfl rfl rfl ?_
 refine A1 rfl rfl rfl (F6 rfl (A0 rfl) rfl) ?_
 refine A1 rfl rfl rfl (F6 rfl (A0 rfl) rfl) ?_
 refine G0 rfl rfl rfl rfl Tryz.zeroValue39 rfl ?_
 intro b9
 refine D5 0 rfl rfl rfl (A0 rfl) (A0 rfl) (E2 _) rfl H2 rfl ?_
 refine B9 rfl rfl rfl rfl rfl ?_
 refine A4 (A3 (D7 (A3 ?_)))
 rw [hh]
 rw [hho, hto]
 refine L1 (by first | (simp only [TState.ow, TState.ocs, pick, O9, O6, O7, O3, N5, List.nil_append, P0, P1, List.append_nil, O4, List.take_zero, O8, List.drop_zero]; exact rfl) | exact rfl) ?_
 refine A2 ?_
 refine A1 rfl rfl rfl (B3 0 rfl B6 rfl C0 (A0 rfl) rfl) ?_
 refine A1 rfl rfl rfl (B1 8 rfl (A0 rfl) rfl D0 rfl) ?_
 refine A1 rfl rfl rfl (M9 rfl (A0 rfl) C4) ?_
 refine B9 rfl rfl rfl rfl rfl ?_
 refine A4 ?_
 refine C7 (A0 rfl) ?_ ?_
 ·intro h29
  have k29 := L3 h29; try simp only [A6] at k29
  have hk : r.Kind = 4 := by simpa using h29
  have he : applyS s r = (⟨r.Time, s.Cells, s.Held, s.Told⟩, decide (s.Floor < r.Time)) := by (unfold applyS; rw [if_pos hk])
  rw [he]
  refine A3 ?_
  refine L1 (by first | (simp only [TState.ow, TState.ocs, pick, O9, O6, O7, O3, N5, List.nil_append, P0, P1, List.append_nil, O4, List.take_zero, O8, List.drop_zero]; exact rfl) | exact rfl) ?_
  refine A2 ?_
  refine A1 rfl rfl rfl (B3 2 rfl B6 rfl C0 (A0 rfl) rfl) ?_
  refine A1 rfl rfl rfl (B1 8 rfl (A0 rfl) rfl D0 rfl) ?_
  refine A1 rfl rfl rfl (B3 0 rfl B8 rfl C0 (A0 rfl) rfl) ?_
  refine I4 4 rfl rfl rfl (A0 rfl) (A0 rfl) (K9 _ _) rfl C0 rfl ?_
  refine A4 (A3 ?_)
  refine L1 (by first | (simp only [TState.ow, TState.ocs, pick, O9, O6, O7, O3, N5, List.nil_append, P0, P1, List.append_nil, O4, List.take_zero, O8, List.drop_zero]; exact rfl) | exact rfl) ?_
  refine AWP.le (I8 [4, 7, 7] rfl) ?_
  refine V7 _ 7 (.pure 0 (.pure 1 (.pure 2 (.pure 3 (.pure 4 (.pure 5 (.e1 6 .nil))))))) (by kernel_rfl) (by kernel_rfl) rfl (W9 3) ?_
  refine J2 rfl rfl rfl (fun ext => F2 0 rfl (A0 rfl) rfl D6 C1 rfl) ?_
  refine J2 rfl rfl rfl (fun ext => B3 2 rfl B6 rfl C0 (A0 rfl) rfl) ?_
  refine J2 rfl rfl rfl (fun ext => B1 1 rfl (A0 rfl) rfl D0 rfl) ?_
  refine J2 rfl rfl rfl (fun ext => B3 0 rfl B8 rfl C0 (A0 rfl) rfl) ?_
  refine J2 rfl rfl rfl (fun ext => B1 2 rfl (A0 rfl) rfl D0 rfl) ?_
  refine J2 rfl rfl rfl (fun ext => P8 rfl (A0 rfl) (A0 rfl)) ?_
  refine X0 ?_
  refine AY1 rfl rfl rfl (w6 9 rfl rfl (A0 rfl) (A0 rfl) (E2 _) rfl C1 rfl) (fun a _ => (by first | exact F8 rfl | exact F8 (List.append_assoc _ _ _) | exact J5)) ?_
  intro _ _
  refine d4 ?_
  refine B9 rfl rfl rfl rfl rfl ?_
  refine A4 ?_
  refine C8 ?_
  exact K1 [5, 5, 5, 5] (x14.1, x14.2) (trivial) rfl (by rfl) (T2 rfl (by decide) (E6 (J6 (ys := _) 9 rfl rfl D6 C1 rfl) (E6 (C5 rfl (by rfl)) K8)))
 ·intro h29
  have k29 := L2 h29; try simp only [A6] at k29
  have hk4 : r.Kind ≠ 4 := by simpa using h29
  refine A3 (A2 ?_)
  refine A5 rfl rfl rfl rfl rfl ?_
  refine B9 rfl rfl rfl rfl rfl ?_
  refine A4 ?_
  refine C7 (A0 rfl) ?_ ?_
  ·intro h42
   have he : applyS s r = (s, false) := by (unfold applyS; rw [if_neg hk4, if_pos h42])
   rw [he]
   refine A3 (A2 ?_)
   refine A1 rfl rfl rfl (F2 4 rfl (A0 rfl) rfl D6 C1 rfl) ?_
   refine D5 7 rfl rfl rfl (A0 rfl) (A0 rfl) (E2 _) rfl C1 rfl ?_
   refine A1 rfl rfl rfl (C3 rfl F4) ?_
   refine A4 ?_
   refine C8 ?_
   exact K1 [2, 2, 3, 3] (x14.1, x14.2) (trivial) rfl (by rfl) (T2 rfl (by decide) (E6 (J6 (ys := _) 7 rfl rfl D6 C1 rfl) (E6 (C5 rfl (by rfl)) K8)))
  ·intro h42
   have hT : hasT s.Told r.Txn = false := h42
   have hnT : ¬ hasT s.Told r.Txn = true := by (rw [hT]; decide)
   refine A3 (A2 ?_)
   refine A1 rfl rfl rfl (B3 0 rfl B6 rfl C0 (A0 rfl) rfl) ?_
   refine A1 rfl rfl rfl (B1 8 rfl (A0 rfl) rfl D0 rfl) ?_
   refine A1 rfl rfl rfl (M9 rfl (A0 rfl) C4) ?_
   refine B9 rfl rfl rfl rfl rfl ?_
   refine A4 ?_
   refine C7 (A0 rfl) ?_ ?_
   ·intro h45
    have k45 := L3 h45; try simp only [A6] at k45
    have hk1 : r.Kind = 1 := by simpa using h45
    have he : applyS s r = (⟨r.Time, s.Cells, insH (hOf r) s.Held, s.Told⟩, (!hasH s.Held r.Txn && decide (s.Floor < r.Time)) && fits s r.Reads r.Writes) := by (unfold applyS; rw [if_neg hk4, if_neg hnT, if_pos hk1])
    rw [he]
    refine A3 ?_
    refine AWP.le (u4 [5] 4 (.box b6 30 [AV.int s.Floor, AV.list 2 (s.Cells.map TCell.cs), AV.list 5 (s.Held.map THeld.cs), AV.is x14.2]) rfl rfl ⟨rfl, rfl, (G8 L6 (G8 L6 (G8 (M6 (G6 (i := 0) rfl) J0) (G8 L6 T8))))⟩ (T7 2 rfl rfl (T7 3 rfl rfl O5))) ?_
    refine L1 (by first | (simp only [TState.ow, TState.ocs, pick, O9, O6, O7, O3, N5, List.nil_append, P0, P1, List.append_nil, O4, List.take_zero, O8, List.drop_zero]; exact rfl) | exact rfl) ?_
    refine AWP.le (I8 [4, 6] rfl) ?_
    refine T3 _ [(0, false), (1, false), (2, false), (3, false), (4, false), (5, false), (6, false), (7, false), (8, false), (9, false), (10, false), (12, false), (13, false), (11, true), (14, true), (15, false), (16, true)] (by kernel_rfl) (by kernel_rfl) rfl (W9 2) ?_
    refine F9 rfl rfl rfl (fun ext => B3 2 rfl B8 rfl E9 (A0 rfl) rfl) ?_
    refine F9 rfl rfl rfl (fun ext => B1 0 rfl (A0 rfl) rfl I3 rfl) ?_
    refine F9 rfl rfl rfl (fun ext => B3 1 rfl B6 rfl C0 (A0 rfl) rfl) ?_
    refine F9 rfl rfl rfl (fun ext => B1 1 rfl (A0 rfl) rfl D0 rfl) ?_
    refine F9 rfl rfl rfl (fun ext => B3 2 rfl B6 rfl C0 (A0 rfl) rfl) ?_
    refine F9 rfl rfl rfl (fun ext => B1 1 rfl (A0 rfl) rfl D0 rfl) ?_
    refine F9 rfl rfl rfl (fun ext => B3 3 rfl B6 rfl C0 (A0 rfl) rfl) ?_
    refine F9 rfl rfl rfl (fun ext => B1 1 rfl (A0 rfl) rfl D0 rfl) ?_
    refine F9 rfl rfl rfl (fun ext => B3 4 rfl B6 rfl L7 (A0 rfl) rfl) ?_
    refine F9 rfl rfl rfl (fun ext => B1 1 rfl (A0 rfl) rfl N9 rfl) ?_
    refine F9 rfl rfl rfl (fun ext => E5 rfl Tryz.call169 rfl (AQ2 _ (by omega)) (A9 (A0 rfl) D1)) ?_
    refine F9 rfl rfl rfl (fun ext => B3 5 rfl B6 rfl K2 (A0 rfl) rfl) ?_
    refine F9 rfl rfl rfl (fun ext => B1 1 rfl (A0 rfl) rfl L8 rfl) ?_
    refine U1 rfl rfl rfl (a6 rfl F3 H7) (fun a _ => (by first | exact F8 rfl | exact F8 (List.append_assoc _ _ _) | exact J5)) ?_
    intro v60 _
    refine U1 rfl rfl rfl (Ag6 [9] (fun _ => rfl) (fun _ => M6 (G6 (i := 0) rfl) J0) (fun _ => (T7 4 rfl rfl (T7 5 rfl rfl O5))) (P7 (by' := 40) 9 rfl F3 Tryz.type77 rfl rfl rfl rfl rfl rfl (A0 rfl) (A0 rfl) rfl (by simp only [B7, A6]; omega))) (fun a _ => (by first | exact F8 rfl | exact F8 (List.append_assoc _ _ _) | exact J5)) ?_
    intro v63_1 _
    refine F9 rfl rfl rfl (fun ext => N0 (places := #[(0, 1), (1, 1), (2, 1), (3, 1), (4, 1)]) rfl F1 Tryz.zeroValue45 (fun w => by kernel_rfl) rfl (E0 (A0 rfl) (K9 _ _) (E0 (A0 rfl) (K9 _ _) (E0 (A0 rfl) (K9 _ _) (E0 (A0 rfl) (S2 _ _) (E0 (A0 rfl) (S2 _ _) H6))))) rfl) ?_
    refine U1 rfl rfl rfl (f5 [] rfl Tryz.call204 rfl (AU2 s.Held (hOf r) hgh (by omega)) (A9 (A0 rfl) (A9 (A0 rfl) D1)) rfl) (fun a _ => (by first | exact F8 rfl | exact F8 (List.append_assoc _ _ _) | exact J5)) ?_
    intro x65 ok65
    refine i3 ?_
    refine A1 rfl rfl rfl (B3 2 rfl B8 rfl E9 (A0 rfl) rfl) ?_
    refine Q8 9 rfl fun one_x65 => ?_
    refine I4 0 rfl rfl rfl (A0 rfl) (A0 rfl) (Q9 one_x65) rfl E9 rfl ?_
    refine A4 (A3 ?_)
    refine L1 (by first | (simp only [TState.ow, TState.ocs, pick, O9, O6, O7, O3, N5, List.nil_append, P0, P1, List.append_nil, O4, List.take_zero, O8, List.drop_zero]; exact rfl) | exact rfl) ?_
    refine A2 ?_
    refine A1 rfl rfl rfl (B3 2 rfl B6 rfl C0 (A0 rfl) rfl) ?_
    refine A1 rfl rfl rfl (B1 1 rfl (A0 rfl) rfl D0 rfl) ?_
    refine A1 rfl rfl rfl (B3 0 rfl B8 rfl C0 (A0 rfl) rfl) ?_
    refine I4 0 rfl rfl rfl (A0 rfl) (A0 rfl) (K9 _ _) rfl C0 rfl ?_
    refine A4 (A3 ?_)
    refine L1 (by first | (simp only [TState.ow, TState.ocs, pick, O9, O6, O7, O3, N5, List.nil_append, P0, P1, List.append_nil, O4, List.take_zero, O8, List.drop_zero]; exact rfl) | exact rfl) ?_
    refine AWP.le (I8 [0, 0, 6, 2, 2] rfl) ?_
    refine V7 _ 19 (.pure 0 (.pure 1 (.pure 2 (.pure 3 (.pure 4 (.pure 5 (.pure 6 (.pure 7 (.pure 8 (.pure 9 (.pure 10 (.pure 11 (.pure 12 (.pure 13 (.pure 14 (.pure 15 (.pure 16 (.pure 17 (.e1 18 .nil))))))))))))))))))) (by kernel_rfl) (by kernel_rfl) rfl (W9 5) ?_
    refine J2 rfl rfl rfl (fun ext => F2 0 rfl (A0 rfl) rfl D6 C1 rfl) ?_
    refine J2 rfl rfl rfl (fun ext => C6 rfl (A0 rfl)) ?_
    refine J2 rfl rfl rfl (fun ext => M2 rfl (A0 rfl)) ?_
    refine J2 rfl rfl rfl (fun ext => C6 rfl (A0 rfl)) ?_
    refine V4 rfl rfl (C2 rfl rfl rfl) (fun hc ext => B3 2 rfl B6 rfl C0 (A0 rfl) rfl) ?_
    refine V4 rfl rfl (C2 rfl rfl rfl) (fun hc ext => B1 1 rfl (B0 rfl hc) rfl D0 rfl) ?_
    refine V4 rfl rfl (C2 rfl rfl rfl) (fun hc ext => B3 0 rfl B8 rfl C0 (A0 rfl) rfl) ?_
    refine V4 rfl rfl (C2 rfl rfl rfl) (fun hc ext => B1 2 rfl (B0 rfl hc) rfl D0 rfl) ?_
    refine V4 rfl rfl (C2 rfl rfl rfl) (fun hc ext => P8 rfl (B0 rfl hc) (B0 rfl hc)) ?_
    refine J2 rfl rfl rfl (fun ext => I6 rfl (A0 rfl) (G4 rfl)) ?_
    refine J2 rfl rfl rfl (fun ext => C6 rfl (A0 rfl)) ?_
    refine V4 rfl rfl (C2 rfl rfl rfl) (fun hc ext => F2 2 rfl (A0 rfl) rfl D6 C1 rfl) ?_
    refine V4 rfl rfl (C2 rfl rfl rfl) (fun hc ext => B3 4 rfl B6 rfl L7 (A0 rfl) rfl) ?_
    refine V4 rfl rfl (C2 rfl rfl rfl) (fun hc ext => B1 1 rfl (B0 rfl hc) rfl N9 rfl) ?_
    refine V4 rfl rfl (C2 rfl rfl rfl) (fun hc ext => B3 5 rfl B6 rfl K2 (A0 rfl) rfl) ?_
    refine V4 rfl rfl (C2 rfl rfl rfl) (fun hc ext => B1 1 rfl (B0 rfl hc) rfl L8 rfl) ?_
    refine V4 rfl rfl (C2 rfl rfl rfl) (fun hc ext => V8 rfl Tryz.call126 rfl (Aa2 s r.Reads r.Writes (by omega) (by omega)) (G3 _) (N3 (g9 (B0 rfl hc) (X7 (G8 L6 (G8 L6 (G8 (M6 (G6 (i := 3) rfl) J0) (G8 (M6 (G6 (i := 4) rfl) J0) T8)))))) (N3 (evb (B0 rfl hc)) (N3 (evb (B0 rfl hc)) U3)))) ?_
    refine J2 rfl rfl rfl (fun ext => I6 rfl (A0 rfl) (G4 rfl)) ?_
    refine X0 ?_
    refine AY1 rfl rfl rfl (w6 8 rfl rfl (A0 rfl) (A0 rfl) (E2 _) rfl C1 rfl) (fun a _ => (by first | exact F8 rfl | exact F8 (List.append_assoc _ _ _) | exact J5)) ?_
    intro _ _
    refine d4 ?_
    refine B9 rfl rfl rfl rfl rfl ?_
    refine A4 ?_
    refine C8 ?_
    exact K1 [3, 3, 7, 5] (x65, x14.2) (trivial) rfl (by rfl) (T2 rfl (by decide) (E6 (J6 (ys := _) 8 rfl rfl D6 C1 rfl) (E6 (C5 rfl (by rfl)) K8)))
   ·intro h45
    have k45 := L2 h45; try simp only [A6] at k45
    have hk1 : r.Kind ≠ 1 := by simpa using h45
    have hap : applyS s r = (if r.Yes = true then (match findH s.Held r.Txn with | none => (s, false) | some h => if r.Time < h.Time then (s, false) else if (putP s.Cells h.Writes r.Time).2 = true then (doneS s r (if s.Floor < r.Time then r.Time else s.Floor) (putP s.Cells h.Writes r.Time).1, true) else (s, false)) else (doneS s r s.Floor s.Cells, true)) := by (unfold applyS; rw [if_neg hk4, if_neg hnT, if_neg hk1]; rfl)
    refine A3 (A2 ?_)
    refine A1 rfl rfl rfl (B3 6 rfl B6 rfl J4 (A0 rfl) rfl) ?_
    refine A1 rfl rfl rfl (B1 8 rfl (A0 rfl) rfl L0 rfl) ?_
    refine B9 rfl rfl rfl rfl rfl ?_
    refine A4 ?_
    refine C7 (A0 rfl) ?_ ?_
    ·intro h88
     refine A3 (A3 (A2 ?_))
     refine A5 rfl rfl rfl rfl rfl ?_
     refine A1 rfl rfl rfl (M2 rfl (A0 rfl)) ?_
     refine A5 rfl rfl rfl rfl rfl ?_
     refine B4 rfl rfl (D4 rfl rfl rfl) (fun hc => B3 1 rfl F1 rfl C0 (A0 rfl) rfl) ?_
     refine B4 rfl rfl (D4 rfl rfl rfl) (fun hc => B1 1 rfl (B0 rfl hc) rfl D0 rfl) ?_
     refine B4 rfl rfl (D4 rfl rfl rfl) (fun hc => B3 2 rfl B6 rfl C0 (A0 rfl) rfl) ?_
     refine B4 rfl rfl (D4 rfl rfl rfl) (fun hc => B1 8 rfl (B0 rfl hc) rfl D0 rfl) ?_
     refine B4 rfl rfl (D4 rfl rfl rfl) (fun hc => P8 rfl (B0 rfl hc) (B0 rfl hc)) ?_
     refine A1 rfl rfl rfl (Q4 rfl (A0 rfl) (G4 rfl)) ?_
     refine A4 ?_
     refine C7 (A0 rfl) ?_ ?_
     ·intro h99
      have he : applyS s r = (s, false) := by (rw [hap, if_pos h88]; cases e : hasH s.Held r.Txn with | false => (rw [hf0 e]) | true => (rw [hf1 e]; dsimp only; rw [if_pos (by rw [e] at h99; simpa using h99)]))
      rw [he]
      refine A3 ?_
      refine L1 (by first | (simp only [TState.ow, TState.ocs, pick, O9, O6, O7, O3, N5, List.nil_append, P0, P1, List.append_nil, O4, List.take_zero, O8, List.drop_zero]; exact rfl) | exact rfl) ?_
      refine A2 ?_
      refine A1 rfl rfl rfl (F2 4 rfl (A0 rfl) rfl D6 C1 rfl) ?_
      refine D5 7 rfl rfl rfl (A0 rfl) (A0 rfl) (E2 _) rfl C1 rfl ?_
      refine A1 rfl rfl rfl (C3 rfl F4) ?_
      refine A4 ?_
      refine C8 ?_
      exact K1 [2, 2, 3, 3] (x14.1, x14.2) (trivial) rfl (by rfl) (T2 rfl (by decide) (E6 (J6 (ys := _) 7 rfl rfl D6 C1 rfl) (E6 (C5 rfl (by rfl)) K8)))
     ·intro h99
      simp only [Bool.or_eq_false_iff, Bool.not_eq_false', decide_eq_false_iff_not] at h99
      obtain ⟨hhas, hnlt⟩ := h99
      obtain ⟨hz1, hz2⟩ := hhs hhas
      have hz3 : h.size = sizeL (fun x => x.length) h.Reads + sizeL TWrite.size h.Writes := rfl
      refine D2 (A3 ?_)
      refine L1 (by first | (simp only [TState.ow, TState.ocs, pick, O9, O6, O7, O3, N5, List.nil_append, P0, P1, List.append_nil, O4, List.take_zero, O8, List.drop_zero]; exact rfl) | exact rfl) ?_
      refine A2 ?_
      refine A1 rfl rfl rfl (B3 1 rfl B8 rfl M7 (A0 rfl) rfl) ?_
      refine A1 rfl rfl rfl (B1 9 rfl (A0 rfl) rfl P5 rfl) ?_
      refine A1 rfl rfl rfl (B3 4 rfl F1 rfl K2 (A0 rfl) rfl) ?_
      refine A1 rfl rfl rfl (B1 1 rfl (A0 rfl) rfl L8 rfl) ?_
      refine A1 rfl rfl rfl (B3 2 rfl B6 rfl C0 (A0 rfl) rfl) ?_
      refine A1 rfl rfl rfl (B1 8 rfl (A0 rfl) rfl D0 rfl) ?_
      refine A1 rfl rfl rfl (E5 rfl Tryz.call205 rfl (AU3 s.Cells h.Writes r.Time hgc (by omega) (by omega) (by omega)) (A9 (A0 rfl) (A9 (A0 rfl) (A9 (A0 rfl) D1)))) ?_
      refine A5 rfl rfl rfl rfl rfl ?_
      refine A1 rfl rfl rfl (F6 rfl (A0 rfl) rfl) ?_
      refine A1 rfl rfl rfl (F6 rfl (A0 rfl) rfl) ?_
      refine B9 rfl rfl rfl rfl rfl ?_
      refine B9 rfl rfl rfl rfl rfl ?_
      refine A4 (A3 (A3 (A2 ?_)))
      refine A5 rfl rfl rfl rfl rfl ?_
      refine A1 rfl rfl rfl (M2 rfl (A0 rfl)) ?_
      refine A4 ?_
      refine C7 (A0 rfl) ?_ ?_
      ·intro h112
       have he : applyS s r = (s, false) := by (rw [hap, if_pos h88, hf1 hhas]; dsimp only; rw [if_neg (by omega), if_neg (by simpa using h112)])
       rw [he]
       refine A3 (A2 ?_)
       refine A1 rfl rfl rfl (F2 4 rfl (A0 rfl) rfl D6 C1 rfl) ?_
       refine D5 7 rfl rfl rfl (A0 rfl) (A0 rfl) (E2 _) rfl C1 rfl ?_
       refine A1 rfl rfl rfl (C3 rfl F4) ?_
       refine A4 ?_
       refine C8 ?_
       exact K1 [2, 2, 3, 3] (x14.1, x14.2) (trivial) rfl (by rfl) (T2 rfl (by decide) (E6 (J6 (ys := _) 7 rfl rfl D6 C1 rfl) (E6 (C5 rfl (by rfl)) K8)))
      ·intro h112
       have he : applyS s r = (doneS s r (if s.Floor < r.Time then r.Time else s.Floor) (putP s.Cells h.Writes r.Time).1, true) := by (rw [hap, if_pos h88, hf1 hhas]; dsimp only; rw [if_neg (by omega), if_pos (by simpa using h112)])
       rw [he]
       unfold doneS
       refine D2 (A3 ?_)
       refine L1 (by first | (simp only [TState.ow, TState.ocs, pick, O9, O6, O7, O3, N5, List.nil_append, P0, P1, List.append_nil, O4, List.take_zero, O8, List.drop_zero]; exact rfl) | exact rfl) ?_
       refine A2 ?_
       refine A5 rfl rfl rfl rfl rfl ?_
       refine A1 rfl rfl rfl (B3 1 rfl B8 rfl M7 (A0 rfl) rfl) ?_
       refine I4 4 rfl rfl rfl (A0 rfl) (A0 rfl) (S2 _ _) rfl M7 rfl ?_
       refine A4 ?_
       refine L1 (by first | (simp only [TState.ow, TState.ocs, pick, O9, O6, O7, O3, N5, List.nil_append, P0, P1, List.append_nil, O4, List.take_zero, O8, List.drop_zero]; exact rfl) | exact rfl) ?_
       refine A2 ?_
       refine A1 rfl rfl rfl (B3 0 rfl B8 rfl C0 (A0 rfl) rfl) ?_
       refine A1 rfl rfl rfl (B1 9 rfl (A0 rfl) rfl D0 rfl) ?_
       refine A1 rfl rfl rfl (B3 2 rfl B6 rfl C0 (A0 rfl) rfl) ?_
       refine A1 rfl rfl rfl (B1 8 rfl (A0 rfl) rfl D0 rfl) ?_
       refine A1 rfl rfl rfl (E5 rfl Tryz.call130 rfl (AQ3 _ _) (A9 (A0 rfl) (A9 (A0 rfl) D1))) ?_
       refine A1 rfl rfl rfl (B3 0 rfl B8 rfl C0 (A0 rfl) rfl) ?_
       refine I4 4 rfl rfl rfl (A0 rfl) (A0 rfl) (K9 _ _) rfl C0 rfl ?_
       refine A4 (A3 ?_)
       refine AWP.le (u4 [5, 5] 4 (.box b6 30 [_, _, AV.list 5 (s.Held.map THeld.cs), AV.list 3 (s.Told.map TTold.cs)]) rfl rfl ⟨rfl, rfl, (G8 L6 (G8 L6 (G8 (M6 (G6 (i := 0) rfl) J0) (G8 (M6 (G6 (i := 1) rfl) J0) T8))))⟩ (T7 2 rfl rfl (T7 3 rfl rfl O5))) ?_
       refine L1 (by first | (simp only [TState.ow, TState.ocs, pick, O9, O6, O7, O3, N5, List.nil_append, P0, P1, List.append_nil, O4, List.take_zero, O8, List.drop_zero]; exact rfl) | exact rfl) ?_
       refine A2 ?_
       refine A1 rfl rfl rfl (B3 2 rfl B8 rfl E9 (A0 rfl) rfl) ?_
       refine A1 rfl rfl rfl (B1 4 rfl (A0 rfl) rfl I3 rfl) ?_
       refine A1 rfl rfl rfl (B3 1 rfl B6 rfl C0 (A0 rfl) rfl) ?_
       refine A1 rfl rfl rfl (B1 6 rfl (A0 rfl) rfl D0 rfl) ?_
       refine I2 [] rfl rfl rfl rfl Tryz.call206 rfl (AW6 s.Held r.Txn (by omega)) (A9 (A0 rfl) (A9 (A0 rfl) D1)) rfl ?_
       intro x126 ok126
       refine A1 rfl rfl rfl (B3 2 rfl B8 rfl E9 (A0 rfl) rfl) ?_
       refine Q8 0 rfl fun one_x126 => ?_
       refine I4 5 rfl rfl rfl (A0 rfl) (A0 rfl) (Q9 one_x126) rfl E9 rfl ?_
       refine A4 (A3 ?_)
       refine L1 (by first | (simp only [TState.ow, TState.ocs, pick, O9, O6, O7, O3, N5, List.nil_append, P0, P1, List.append_nil, O4, List.take_zero, O8, List.drop_zero]; exact rfl) | exact rfl) ?_
       refine A2 ?_
       refine A1 rfl rfl rfl (B3 3 rfl B8 rfl J3 (A0 rfl) rfl) ?_
       refine A1 rfl rfl rfl (B1 5 rfl (A0 rfl) rfl O0 rfl) ?_
       refine A1 rfl rfl rfl (B3 1 rfl B6 rfl C0 (A0 rfl) rfl) ?_
       refine A1 rfl rfl rfl (B1 7 rfl (A0 rfl) rfl D0 rfl) ?_
       refine A1 rfl rfl rfl (B3 6 rfl B6 rfl J4 (A0 rfl) rfl) ?_
       refine A1 rfl rfl rfl (B1 7 rfl (A0 rfl) rfl L0 rfl) ?_
       refine A1 rfl rfl rfl (B3 2 rfl B6 rfl C0 (A0 rfl) rfl) ?_
       refine A1 rfl rfl rfl (B1 7 rfl (A0 rfl) rfl D0 rfl) ?_
       refine A1 rfl rfl rfl (N0 (places := #[(0, 1), (1, 1), (2, 1)]) rfl K0 Tryz.zeroValue39 (fun w => by kernel_rfl) rfl (E0 (A0 rfl) (K9 _ _) (E0 (A0 rfl) (V3 _) (E0 (A0 rfl) (K9 _ _) H6))) rfl) ?_
       refine I2 [] rfl rfl rfl rfl Tryz.call207 rfl (AG7 s.Told ⟨r.Txn, r.Yes, r.Time⟩ hgt (by omega)) (A9 (A0 rfl) (A9 (A0 rfl) D1)) rfl ?_
       intro x137 ok137
       refine A1 rfl rfl rfl (B3 3 rfl B8 rfl J3 (A0 rfl) rfl) ?_
       refine Q8 0 rfl fun one_x137 => ?_
       refine I4 6 rfl rfl rfl (A0 rfl) (A0 rfl) (Q9 one_x137) rfl J3 rfl ?_
       refine A4 (A3 ?_)
       refine L1 (by first | (simp only [TState.ow, TState.ocs, pick, O9, O6, O7, O3, N5, List.nil_append, P0, P1, List.append_nil, O4, List.take_zero, O8, List.drop_zero]; exact rfl) | exact rfl) ?_
       refine A2 ?_
       refine A1 rfl rfl rfl (F2 6 rfl (A0 rfl) rfl D6 C1 rfl) ?_
       refine D5 7 rfl rfl rfl (A0 rfl) (A0 rfl) (E2 _) rfl C1 rfl ?_
       refine A1 rfl rfl rfl (C3 rfl F4) ?_
       refine A4 ?_
       refine C8 ?_
       exact K1 [4, 4, 1, 0] (x126, x137) (trivial) rfl (by rfl) (T2 rfl (by decide) (E6 (J6 (ys := _) 7 rfl rfl D6 C1 rfl) (E6 (C5 rfl (by rfl)) K8)))
    ·intro h88
     have he : applyS s r = (doneS s r s.Floor s.Cells, true) := by (rw [hap, if_neg (by rw [h88]; decide)])
     rw [he]
     unfold doneS
     refine D2 (A3 ?_)
     refine AWP.le (u4 [5, 5] 4 (.box b6 30 [_, _, AV.list 5 (s.Held.map THeld.cs), AV.list 3 (s.Told.map TTold.cs)]) rfl rfl ⟨rfl, rfl, (G8 L6 (G8 L6 (G8 (M6 (G6 (i := 0) rfl) J0) (G8 (M6 (G6 (i := 1) rfl) J0) T8))))⟩ (T7 2 rfl rfl (T7 3 rfl rfl O5))) ?_
     refine L1 (by first | (simp only [TState.ow, TState.ocs, pick, O9, O6, O7, O3, N5, List.nil_append, P0, P1, List.append_nil, O4, List.take_zero, O8, List.drop_zero]; exact rfl) | exact rfl) ?_
     refine A2 ?_
     refine A1 rfl rfl rfl (B3 2 rfl B8 rfl E9 (A0 rfl) rfl) ?_
     refine A1 rfl rfl rfl (B1 4 rfl (A0 rfl) rfl I3 rfl) ?_
     refine A1 rfl rfl rfl (B3 1 rfl B6 rfl C0 (A0 rfl) rfl) ?_
     refine A1 rfl rfl rfl (B1 6 rfl (A0 rfl) rfl D0 rfl) ?_
     refine I2 [] rfl rfl rfl rfl Tryz.call206 rfl (AW6 s.Held r.Txn (by omega)) (A9 (A0 rfl) (A9 (A0 rfl) D1)) rfl ?_
     intro x126 ok126
     refine A1 rfl rfl rfl (B3 2 rfl B8 rfl E9 (A0 rfl) rfl) ?_
     refine Q8 0 rfl fun one_x126 => ?_
     refine I4 5 rfl rfl rfl (A0 rfl) (A0 rfl) (Q9 one_x126) rfl E9 rfl ?_
     refine A4 (A3 ?_)
     refine L1 (by first | (simp only [TState.ow, TState.ocs, pick, O9, O6, O7, O3, N5, List.nil_append, P0, P1, List.append_nil, O4, List.take_zero, O8, List.drop_zero]; exact rfl) | exact rfl) ?_
     refine A2 ?_
     refine A1 rfl rfl rfl (B3 3 rfl B8 rfl J3 (A0 rfl) rfl) ?_
     refine A1 rfl rfl rfl (B1 5 rfl (A0 rfl) rfl O0 rfl) ?_
     refine A1 rfl rfl rfl (B3 1 rfl B6 rfl C0 (A0 rfl) rfl) ?_
     refine A1 rfl rfl rfl (B1 7 rfl (A0 rfl) rfl D0 rfl) ?_
     refine A1 rfl rfl rfl (B3 6 rfl B6 rfl J4 (A0 rfl) rfl) ?_
     refine A1 rfl rfl rfl (B1 7 rfl (A0 rfl) rfl L0 rfl) ?_
     refine A1 rfl rfl rfl (B3 2 rfl B6 rfl C0 (A0 rfl) rfl) ?_
     refine A1 rfl rfl rfl (B1 7 rfl (A0 rfl) rfl D0 rfl) ?_
     refine A1 rfl rfl rfl (N0 (places := #[(0, 1), (1, 1), (2, 1)]) rfl K0 Tryz.zeroValue39 (fun w => by kernel_rfl) rfl (E0 (A0 rfl) (K9 _ _) (E0 (A0 rfl) (V3 _) (E0 (A0 rfl) (K9 _ _) H6))) rfl) ?_
     refine I2 [] rfl rfl rfl rfl Tryz.call207 rfl (AG7 s.Told ⟨r.Txn, r.Yes, r.Time⟩ hgt (by omega)) (A9 (A0 rfl) (A9 (A0 rfl) D1)) rfl ?_
     intro x137 ok137
     refine A1 rfl rfl rfl (B3 3 rfl B8 rfl J3 (A0 rfl) rfl) ?_
     refine Q8 0 rfl fun one_x137 => ?_
     refine I4 6 rfl rfl rfl (A0 rfl) (A0 rfl) (Q9 one_x137) rfl J3 rfl ?_
     refine A4 (A3 ?_)
     refine L1 (by first | (simp only [TState.ow, TState.ocs, pick, O9, O6, O7, O3, N5, List.nil_append, P0, P1, List.append_nil, O4, List.take_zero, O8, List.drop_zero]; exact rfl) | exact rfl) ?_
     refine A2 ?_
     refine A1 rfl rfl rfl (F2 6 rfl (A0 rfl) rfl D6 C1 rfl) ?_
     refine D5 7 rfl rfl rfl (A0 rfl) (A0 rfl) (E2 _) rfl C1 rfl ?_
     refine A1 rfl rfl rfl (C3 rfl F4) ?_
     refine A4 ?_
     refine C8 ?_
     exact K1 [4, 4, 1, 0] (x126, x137) (trivial) rfl (by rfl) (T2 rfl (by decide) (E6 (J6 (ys := _) 7 rfl rfl D6 C1 rfl) (E6 (C5 rfl (by rfl)) K8)))
end Go.Proofs.YtnlhbdkcgaeimaaGreat

set_option linter.unusedVariables false
set_option linter.unusedSimpArgs false
set_option maxRecDepth 100000
set_option maxHeartbeats 2000000
namespace Go.M
open Go.AV
structure SB (m : Int) (s : TState) : Prop where
  floor : 0 ≤ s.Floor ∧ s.Floor ≤ m
  leads : ∀ h ∈ s.Held, 0 ≤ h.Lead ∧ h.Lead ≤ 3
theorem sb_apply {m : Int} {s : TState} (g : SB m s) {r : TRec} (h1 : r.Time ≤ m) (h2 : 0 ≤ r.Lead ∧ r.Lead ≤ 3) (h : (applyS s r).2 = true) : SB m (applyS s r).1 := by
  obtain ⟨g1, g2⟩ := g
  have hless : ∀ h ∈ lessH s.Held r.Txn, 0 ≤ h.Lead ∧ h.Lead ≤ 3 := fun k hk => g2 k (e9.1 hk).1
  unfold applyS at h ⊢
  by_cases h4 : r.Kind = 4
  · rw [if_pos h4] at h ⊢
    have := of_decide_eq_true h
    exact ⟨⟨by dsimp only; omega, h1⟩, g2⟩
  · rw [if_neg h4] at h ⊢
    by_cases hT : hasT s.Told r.Txn = true
    · rw [if_pos hT] at h; cases h
    · rw [if_neg hT] at h ⊢
      by_cases hk : r.Kind = 1
      · rw [if_pos hk] at h ⊢
        simp only [Bool.and_eq_true, Bool.not_eq_true', decide_eq_true_eq] at h
        refine ⟨⟨by dsimp only; omega, h1⟩, fun k hm => ?_⟩
        rcases l0.1 hm with rfl | hm
        · exact h2
        · exact g2 k hm
      · rw [if_neg hk] at h ⊢
        by_cases hy : r.Yes = true
        · rw [if_pos hy] at h ⊢
          cases hf : findH s.Held r.Txn with
          | none => rw [hf] at h; cases h
          | some k =>
            rw [hf] at h
            dsimp only at h ⊢
            by_cases hlt : r.Time < k.Time
            · rw [if_pos hlt] at h; cases h
            · rw [if_neg hlt] at h ⊢
              by_cases hp : (putP s.Cells k.Writes r.Time).2 = true
              · rw [if_pos hp]; exact ⟨by unfold doneS; dsimp only; split <;> omega, hless⟩
              · rw [if_neg hp] at h; cases h
        · rw [if_neg hy]; exact ⟨g1, hless⟩
theorem sb_step {m : Int} {s : TState} (g : SB m s) {r : TRec} (h1 : r.Time ≤ m) (h2 : 0 ≤ r.Lead ∧ r.Lead ≤ 3) : SB m (stepS s r) := by
  unfold stepS
  split
  · exact sb_apply g h1 h2 ‹_›
  · exact g
theorem Au8 {m : Int} : ∀ {l : List TRec} {s : TState}, SB m s → (∀ r ∈ l, r.Time ≤ m ∧ 0 ≤ r.Lead ∧ r.Lead ≤ 3) → SB m (stFrom s l)
  | [], s, g, _ => g
  | r :: l, s, g, h => by
    show SB m (stFrom (stepS s r) l)
    exact Au8 (sb_step g (h r List.mem_cons_self).1 (h r List.mem_cons_self).2) fun x hx => h x (List.mem_cons_of_mem _ hx)
theorem st_phi {l : List TRec} (hl : l.length ≤ 11) (h : ∀ r ∈ l, r.size ≤ 1000) : phi (stFrom zState l) ≤ 33044 := by
  have h2 := u6 (m := 1000) (s := zState) (l := l) h
  have h3 : phi zState = 0 := rfl
  have h5 : l.length * (3 * (1 + 1000) + 1) ≤ 11 * 3004 := Nat.mul_le_mul hl (by decide)
  omega
end Go.M
namespace Go.Proofs.YtnlhbdkcgaeimaaGreat
open Go Go.AV Go.M
attribute [local irreducible] OpW OpA OpS AWP FSpec ESpec GSpec OpE RetOk RetOkG RvDen Le Ev GuardIs SrcIs SrcE Int.tmod Int.tdiv IntKind.wrap bandI
theorem ofK_own (l : List TRec) (hl : l.length ≤ 60) (hr : ∀ r ∈ l, r.size ≤ 1100) : GSpec Tryz.prog 86 [AV.list 7 (l.map TRec.cs)] [] (fun _ : Value × Value × Value => True) (fun x => TState.ow (stFrom zState l) (x.1, x.2.1) ++ [.arr x.2.2 4 1 ((didFrom zState l).map fun b => [AV.bool b])]) (fun x => AV.tup [AV.agg (TState.ocs (stFrom zState l) (x.1, x.2.1)), AV.is x.2.2]) := by
 have hgs : ∀ i, SO (stFrom zState (l.take i)) := fun i => AS0 Ac9
 have hsz : ∀ i, (stFrom zState (l.take i)).size ≤ 300000 := fun i => by
  have h1 := AD8 (stFrom zState (l.take i))
  have h2 := u6 (m := 1100) (s := zState) (l := l.take i) fun r hr2 => hr r (List.mem_of_mem_take hr2)
  have h3 : phi zState = 0 := rfl
  have h4 : (l.take i).length ≤ 60 := by rw [A7]; omega
  have h5 : (l.take i).length * (3 * (1 + 1100) + 1) ≤ 60 * 3304 := Nat.mul_le_mul h4 (by decide)
  omega
 refine H5 Tryz.func86 rfl Tryz.ntmps86 rfl ?_
 refine A3 (A2 ?_)
 refine G0 rfl rfl rfl rfl Tryz.zeroValue30 rfl ?_
 intro b2
 refine A1 rfl rfl rfl (C3 rfl K5) ?_
 refine A4 (A3 (A2 ?_))
 refine G0 rfl rfl rfl rfl Tryz.zeroValue30 rfl ?_
 intro b4
 refine A4 (A3 (A2 ?_))
 refine Q5 4 1 rfl rfl rfl rfl K5 ?_
 intro v5
 refine A4 (A3 (A3 ?_))
 refine AWP.le (l4 1 1 2 rfl rfl O5) ?_
 refine A2 ?_
 refine A5 rfl rfl rfl rfl rfl ?_
 refine A1 rfl rfl rfl (G9 rfl I9 (A0 rfl)) ?_
 refine A1 rfl rfl rfl (C6 rfl C4) ?_
 refine A4 (D7 ?_)
 refine X8 45 5 ?_
 refine X8 39 3 ?_
 refine AWP.le (I8 [3, 1, 0, 0] rfl) ?_
 refine o7 [(2, _), (3, _), (4, _), (10, _), (11, _)] _ (fun (i : Nat) (y : Value × Value) (v : Value) (bs : List Bool) => i ≤ l.length ∧ bs = didFrom zState (l.take i) ∧ bs.length ≤ i) (fun (i : Nat) (y : Value × Value) (v : Value) (bs : List Bool) => [.box b4 30 (TState.ocs (stFrom zState (l.take i)) y), .arr y.1 45 5 ((stFrom zState (l.take i)).Held.map THeld.cs), .arr y.2 39 3 ((stFrom zState (l.take i)).Told.map TTold.cs), .arr v 4 1 (bs.map fun b => [AV.bool b])]) (fun (i : Nat) (y : Value × Value) (v : Value) (bs : List Bool) => [(5, AV.is v), (12, AV.int i)]) (fun (i : Nat) (y : Value × Value) (v : Value) (bs : List Bool) => l.length - i) (0) (((Value.slice none 0 0), (Value.slice none 0 0))) (v5) ([]) ?_ (S7 (by rfl) ⟨rfl, rfl, rfl, rfl, rfl, rfl, rfl, trivial⟩) ?_
 ·exact ⟨Nat.zero_le _, rfl, Nat.le_refl _⟩
 intro i y v bs hinv
 refine A3 (A2 ?_)
 refine A1 rfl rfl rfl (K6 rfl (A0 rfl) (A0 rfl)) ?_
 refine A4 (A3 ?_)
 refine C7 (A0 rfl) ?_ ?_
 ·intro h13
  have k13 := of_decide_eq_true h13; try simp only [A6] at k13
  have hlt : i < l.length := by omega
  obtain ⟨r, hx⟩ := get_some hlt
  have hgr := hr r (G6 hx)
  have hgi := hgs i
  have hsi := hsz i
  refine D2 (A3 (D7 (A3 (A2 ?_))))
  refine A1 rfl rfl rfl (I7 rfl I9 F7 (A0 rfl) (A0 rfl) hx (by first | omega | (simp only [A6, A7, B2, B7, A8, szR] at *; omega))) ?_
  refine A1 rfl rfl rfl (K4 rfl (A0 rfl) K7 F7) ?_
  refine G0 rfl rfl rfl rfl Tryz.zeroValue49 rfl ?_
  intro b7
  refine D5 0 rfl rfl rfl (A0 rfl) (A0 rfl) (E2 _) rfl F7 rfl ?_
  refine A4 (A3 ?_)
  refine L1 (by first | (simp only [TState.ow, TState.ocs, pick, O9, O6, O7, O3, N5, List.nil_append, P0, P1, List.append_nil, O4, List.take_zero, O8, List.drop_zero]; exact rfl) | exact rfl) ?_
  refine A2 ?_
  refine A1 rfl rfl rfl (F2 1 rfl (A0 rfl) rfl D6 C1 rfl) ?_
  refine A1 rfl rfl rfl (F2 0 rfl (A0 rfl) rfl K7 F7 rfl) ?_
  refine I2 [2, 2] rfl rfl rfl rfl Tryz.call103 rfl (Ay2 (stFrom zState (l.take i)) y r hgi (by omega) (by omega)) (A9 (A0 rfl) (A9 (A0 rfl) D1)) rfl ?_
  intro x19 ok19
  refine A5 rfl rfl rfl rfl rfl ?_
  refine A1 rfl rfl rfl (F6 rfl (A0 rfl) rfl) ?_
  refine A1 rfl rfl rfl (F6 rfl (A0 rfl) rfl) ?_
  refine G0 rfl rfl rfl rfl Tryz.zeroValue30 rfl ?_
  intro b8
  refine D5 0 rfl rfl rfl (A0 rfl) (A0 rfl) (E2 _) rfl C1 rfl ?_
  refine B9 rfl rfl rfl rfl rfl ?_
  refine A4 (A3 (A3 ?_))
  refine L1 (by first | (simp only [TState.ow, TState.ocs, pick, O9, O6, O7, O3, N5, List.nil_append, P0, P1, List.append_nil, O4, List.take_zero, O8, List.drop_zero]; exact rfl) | exact rfl) ?_
  refine A2 ?_
  refine A5 rfl rfl rfl rfl rfl ?_
  refine A4 ?_
  refine C7 (A0 rfl) ?_ ?_
  ·intro h22
   have hstep : (applyS (stFrom zState (l.take i)) r).1 = stepS (stFrom zState (l.take i)) r := by (unfold stepS; rw [if_pos h22])
   refine L1 (by first | (simp only [TState.ow, TState.ocs, pick, O9, O6, O7, O3, N5, List.nil_append, P0, P1, List.append_nil, O4, List.take_zero, O8, List.drop_zero]; exact rfl) | exact rfl) ?_
   refine A2 ?_
   refine A1 rfl rfl rfl (F2 0 rfl (A0 rfl) rfl D6 C1 rfl) ?_
   refine D5 6 rfl rfl rfl (A0 rfl) (A0 rfl) (E2 _) rfl C1 rfl ?_
   refine A4 ?_
   refine L1 (by first | (simp only [TState.ow, TState.ocs, pick, O9, O6, O7, O3, N5, List.nil_append, P0, P1, List.append_nil, O4, List.take_zero, O8, List.drop_zero]; exact rfl) | exact rfl) ?_
   refine A2 ?_
   refine A5 rfl rfl rfl rfl rfl ?_
   refine A5 rfl rfl rfl rfl rfl ?_
   refine A1 rfl rfl rfl (L9 rfl R6 J4 Tryz.zeroValue4 rfl rfl rfl rfl (E0 (A0 rfl) (V3 _) H6) rfl rfl) ?_
   refine L5 (by' := 1) 7 rfl rfl rfl rfl R6 Tryz.type4 rfl rfl rfl rfl rfl rfl (A0 rfl) (A0 rfl) rfl (by first | omega | (simp only [A6, A7, B2, B7, A8, szR] at *; omega)) ?_
   intro v27_1
   refine B9 rfl rfl rfl rfl rfl ?_
   refine A4 (A2 ?_)
   refine A1 rfl rfl rfl (G7 rfl (A0 rfl) C4 (by first | omega | (simp only [A6, A7, B2, B7, A8, szR] at *; omega))) ?_
   refine A5 rfl rfl rfl rfl rfl ?_
   refine A4 ?_
   refine X1 i y v bs (i + 1) ((x19.1, x19.2)) (v27_1) (bs ++ [(applyS (stFrom zState (l.take i)) r).2]) ?_ ?_ (Le.trans (I8 [0, 0, 0, 2, 2, 0, 0, 0] rfl) (M1 4 (by first | (rw [List.map_append, m2 hx, ← hstep]; rfl) | rfl) ⟨rfl, rfl, rfl, rfl, rfl, rfl, rfl, trivial⟩))
   ·exact ⟨by omega, by rw [i6 hx, hinv.2.1], by rw [J1]; simp; omega⟩
   ·omega
  ·intro h22
   have hstep : stFrom zState (l.take i) = stepS (stFrom zState (l.take i)) r := by (conv => rhs; unfold stepS; rw [if_neg (by rw [h22]; decide)])
   refine D2 ?_
   refine L1 (by first | (simp only [TState.ow, TState.ocs, pick, O9, O6, O7, O3, N5, List.nil_append, P0, P1, List.append_nil, O4, List.take_zero, O8, List.drop_zero]; exact rfl) | exact rfl) ?_
   refine A2 ?_
   refine A5 rfl rfl rfl rfl rfl ?_
   refine A5 rfl rfl rfl rfl rfl ?_
   refine A1 rfl rfl rfl (L9 rfl R6 J4 Tryz.zeroValue4 rfl rfl rfl rfl (E0 (A0 rfl) (V3 _) H6) rfl rfl) ?_
   refine L5 (by' := 1) 7 rfl rfl rfl rfl R6 Tryz.type4 rfl rfl rfl rfl rfl rfl (A0 rfl) (A0 rfl) rfl (by first | omega | (simp only [A6, A7, B2, B7, A8, szR] at *; omega)) ?_
   intro v27_2
   refine B9 rfl rfl rfl rfl rfl ?_
   refine A4 (A2 ?_)
   refine A1 rfl rfl rfl (G7 rfl (A0 rfl) C4 (by first | omega | (simp only [A6, A7, B2, B7, A8, szR] at *; omega))) ?_
   refine A5 rfl rfl rfl rfl rfl ?_
   refine A4 ?_
   refine X1 i y v bs (i + 1) ((y.1, y.2)) (v27_2) (bs ++ [(applyS (stFrom zState (l.take i)) r).2]) ?_ ?_ (Le.trans (I8 [0, 2, 2, 2, 2, 0, 0, 0] rfl) (M1 4 (by first | (rw [List.map_append, m2 hx, ← hstep]; rfl) | rfl) ⟨rfl, rfl, rfl, rfl, rfl, rfl, rfl, trivial⟩))
   ·exact ⟨by omega, by rw [i6 hx, hinv.2.1], by rw [J1]; simp; omega⟩
   ·omega
 ·intro h13
  have k13 := of_decide_eq_false h13; try simp only [A6] at k13
  have hge : i = l.length := by omega
  have hbs := hinv.2.1
  rw [hge, List.take_length] at hbs
  rw [hge, List.take_length, ← hbs]
  refine H3 ?_
  refine A3 ?_
  refine L1 (by first | (simp only [TState.ow, TState.ocs, pick, O9, O6, O7, O3, N5, List.nil_append, P0, P1, List.append_nil, O4, List.take_zero, O8, List.drop_zero]; exact rfl) | exact rfl) ?_
  refine A2 ?_
  refine A1 rfl rfl rfl (F2 0 rfl (A0 rfl) rfl D6 C1 rfl) ?_
  refine A5 rfl rfl rfl rfl rfl ?_
  refine D5 4 rfl rfl rfl (A0 rfl) (A0 rfl) (E2 _) rfl C1 rfl ?_
  refine B9 rfl rfl rfl rfl rfl ?_
  refine A4 ?_
  refine C8 ?_
  exact K1 [1, 1, 1] (y.1, y.2, v) (trivial) rfl (by rfl) (T2 rfl (by decide) (E6 (J6 (ys := _) 4 rfl rfl D6 C1 rfl) (E6 (C5 rfl (by rfl)) K8)))
theorem As3 (b : Nat) (code : List Int) (hcode : ByteL code) (c : TCur) (hp : c.p ≤ 2000000) : GSpec Tryz.prog 175 [AV.ptr b 0] [.box b 127 (curC code c)] (fun x : TCur × TRec => x.1.p ≤ c.p + 100 ∧ x.2.size ≤ 1000 ∧ 0 ≤ x.2.Lead ∧ x.2.Lead ≤ 3 ∧ 0 ≤ x.2.Time ∧ x.2.Time ≤ 100001) (fun x => [.box b 127 (curC code x.1)]) (fun x => AV.agg x.2.cs) :=
  AG3 (fun x => (x.1, x.2.1)) (fun x => TRec.ow x.2.1 x.2.2) (fun x => [.box b 127 (curC code x.1)]) (Aa4 b code hcode c hp) (fun _ h => h) (fun x _ => X7 (TRec.lc _ _)) (fun x _ => List.perm_append_comm (l₁ := [_])) (fun _ _ => T7 0 rfl rfl O5) (fun x _ => Au1 ⟨rfl, rfl, AC5⟩ Am3)
theorem Ad1 (b : Nat) (code : List Int) (hcode : ByteL code) (c : TCur) (hp : c.p ≤ 1000000) : GSpec Tryz.prog 80 [AV.ptr b 0] [.box b 127 (curC code c)] (fun x : TCur × TRec => x.1.p ≤ c.p + 120 ∧ x.2.size ≤ 1002 ∧ 0 ≤ x.2.Lead ∧ x.2.Lead ≤ 3 ∧ 0 ≤ x.2.Time ∧ x.2.Time ≤ 100001) (fun x => [.box b 127 (curC code x.1)]) (fun x => AV.agg x.2.cs) :=
  AG3 (fun x => (x.1, x.2.1)) (fun x => TRec.ow x.2.1 x.2.2) (fun x => [.box b 127 (curC code x.1)]) (Ai7 b code hcode c hp) (fun _ h => h) (fun x _ => X7 (TRec.lc _ _)) (fun x _ => List.perm_append_comm (l₁ := [_])) (fun _ _ => T7 0 rfl rfl O5) (fun x _ => Au1 ⟨rfl, rfl, AC5⟩ Am3)
theorem AU4 (b : Nat) (code : List Int) (hcode : ByteL code) (c : TCur) (hp : c.p ≤ 900000) : GSpec Tryz.prog 78 [AV.ptr b 0] [.box b 127 (curC code c)] (fun x : TCur × List TRec × Value => x.1.p ≤ c.p + 1300 ∧ x.2.1.length ≤ 11 ∧ ∀ r ∈ x.2.1, r.size ≤ 1000 ∧ r.Time ≤ 33 ∧ 0 ≤ r.Lead ∧ r.Lead ≤ 3) (fun x => [.box b 127 (curC code x.1), .arr x.2.2 49 7 (x.2.1.map TRec.cs)]) (fun x => AV.is x.2.2) := by
 refine H5 Tryz.func78 rfl Tryz.ntmps78 rfl ?_
 refine A3 (A2 ?_)
 refine A1 rfl rfl rfl (C3 rfl K5) ?_
 refine A4 (A3 (A2 ?_))
 refine Q5 49 7 rfl rfl rfl rfl K5 ?_
 intro v3
 refine A4 (A3 (A2 ?_))
 refine A1 rfl rfl rfl (C3 rfl C4) ?_
 refine A4 (A3 (A3 (A2 ?_)))
 refine A5 rfl rfl rfl rfl rfl ?_
 refine I2 [1] rfl rfl rfl rfl Tryz.call100 rfl (T0 _ _ hcode _ _ (by omega) (by omega)) (A9 (A0 rfl) (A9 C4 D1)) rfl ?_
 intro x9 ok9
 refine B9 rfl rfl rfl rfl rfl ?_
 refine A4 (D7 ?_)
 refine AWP.le (I8 [0, 0] rfl) ?_
 refine Ap8 [(0, _), (2, _)] _ (fun (n : Int) (cc : TCur) (l : List TRec) (v : Value) (t : Int) => (0 ≤ n ∧ n + l.length ≤ 11) ∧ cc.p + 110 * n ≤ c.p + 1220 ∧ (0 ≤ t ∧ t + 3 * n ≤ 33) ∧ ∀ r ∈ l, r.size ≤ 1000 ∧ r.Time ≤ 33 ∧ 0 ≤ r.Lead ∧ r.Lead ≤ 3) (fun (n : Int) (cc : TCur) (l : List TRec) (v : Value) (t : Int) => [.box b 127 (curC code cc), .arr v 49 7 (l.map TRec.cs)]) (fun (n : Int) (cc : TCur) (l : List TRec) (v : Value) (t : Int) => [(3, AV.is v), (4, AV.int t), (5, AV.int n)]) (fun (n : Int) (cc : TCur) (l : List TRec) (v : Value) (t : Int) => n.toNat) (x9.2) (x9.1) ([]) (v3) (0) ?_ (S7 (by rfl) ⟨rfl, rfl, rfl, rfl, rfl, trivial⟩) ?_
 ·exact ⟨⟨by omega, by simp; omega⟩, by omega, ⟨by omega, by omega⟩, fun r hr => by cases hr⟩
 intro n cc l v t hinv
 refine A3 (A3 (A2 ?_))
 refine A5 rfl rfl rfl rfl rfl ?_
 refine A1 rfl rfl rfl (P8 rfl (A0 rfl) C4) ?_
 refine A4 ?_
 refine C7 (A0 rfl) ?_ ?_
 ·intro h11
  have k11 := of_decide_eq_true h11; try simp only [A6] at k11
  refine D2 (A3 (D7 (A3 (A2 ?_))))
  refine A5 rfl rfl rfl rfl rfl ?_
  refine I2 [0] rfl rfl rfl rfl Tryz.call175 rfl (As3 _ _ hcode _ (by omega)) (A9 (A0 rfl) D1) rfl ?_
  intro x15 ok15
  refine G0 rfl rfl rfl rfl Tryz.zeroValue49 rfl ?_
  intro b6
  refine D5 0 rfl rfl rfl (A0 rfl) (A0 rfl) (E2 _) rfl F7 rfl ?_
  refine A4 (A3 (A2 ?_))
  refine A5 rfl rfl rfl rfl rfl ?_
  refine A5 rfl rfl rfl rfl rfl ?_
  refine I2 [1] rfl rfl rfl rfl Tryz.call100 rfl (T0 _ _ hcode _ _ (by omega) (by omega)) (A9 (A0 rfl) (A9 C4 D1)) rfl ?_
  intro x18 ok18
  refine A1 rfl rfl rfl (G7 rfl C4 (A0 rfl) (by first | omega | (simp only [A6, A7, B2, B7, A8, szR] at *; omega))) ?_
  refine A1 rfl rfl rfl (G7 rfl (A0 rfl) (A0 rfl) (by first | omega | (simp only [A6, A7, B2, B7, A8, szR] at *; omega))) ?_
  refine B9 rfl rfl rfl rfl rfl ?_
  refine A4 (A3 (A3 (A2 ?_)))
  refine A1 rfl rfl rfl (B3 2 rfl B6 rfl C0 (A0 rfl) rfl) ?_
  refine A1 rfl rfl rfl (B1 1 rfl (A0 rfl) rfl D0 rfl) ?_
  refine A1 rfl rfl rfl (P8 rfl (A0 rfl) C4) ?_
  refine A4 ?_
  refine C7 (A0 rfl) ?_ ?_
  ·intro h23
   have k23 := of_decide_eq_true h23; try simp only [A6] at k23
   refine A2 ?_
   refine A5 rfl rfl rfl rfl rfl ?_
   refine A1 rfl rfl rfl (B3 2 rfl B6 rfl C0 (A0 rfl) rfl) ?_
   refine I4 1 rfl rfl rfl (A0 rfl) (A0 rfl) (K9 _ _) rfl C0 rfl ?_
   refine A4 (A3 (A3 (A2 ?_)))
   refine A1 rfl rfl rfl (B3 0 rfl B6 rfl C0 (A0 rfl) rfl) ?_
   refine A1 rfl rfl rfl (B1 1 rfl (A0 rfl) rfl D0 rfl) ?_
   refine A1 rfl rfl rfl (M9 rfl (A0 rfl) C4) ?_
   refine A5 rfl rfl rfl rfl rfl ?_
   refine B4 rfl rfl (D4 rfl rfl rfl) (fun hc => B3 0 rfl B6 rfl C0 (A0 rfl) rfl) ?_
   refine B4 rfl rfl (D4 rfl rfl rfl) (fun hc => B1 1 rfl (B0 rfl hc) rfl D0 rfl) ?_
   refine B4 rfl rfl (D4 rfl rfl rfl) (fun hc => M9 rfl (B0 rfl hc) C4) ?_
   refine A1 rfl rfl rfl (Q4 rfl (A0 rfl) (G4 rfl)) ?_
   refine A5 rfl rfl rfl rfl rfl ?_
   refine B4 rfl rfl (C2 rfl rfl rfl) (fun hc => C6 rfl (A0 rfl)) ?_
   refine B4 rfl rfl (C2 rfl rfl rfl) (fun hc => U9 2 rfl I9 (B0 rfl hc) rfl) ?_
   refine B4 rfl rfl (C2 rfl rfl rfl) (fun hc => P8 rfl (B0 rfl hc) C4) ?_
   refine A1 rfl rfl rfl (I6 rfl (A0 rfl) (G4 rfl)) ?_
   refine A4 ?_
   refine C7 (A0 rfl) ?_ ?_
   ·intro h38
    have hll : 0 < l.length := by (cases hm : l with | nil => (rw [hm] at h38; simp at h38) | cons y q => simp)
    refine A3 (A2 ?_)
    refine A5 rfl rfl rfl rfl rfl ?_
    refine A5 rfl rfl rfl rfl rfl ?_
    refine A5 rfl rfl rfl rfl rfl ?_
    refine A1 rfl rfl rfl (U9 2 rfl I9 (A0 rfl) rfl) ?_
    refine I2 [0] rfl rfl rfl rfl Tryz.call100 rfl (T0 _ _ hcode _ _ (by simp only [A6]; omega) (by omega)) (A9 (A0 rfl) (A9 (A0 rfl) D1)) rfl ?_
    intro x43 ok43
    have hix : x43.2.toNat < l.length := by (have h9 := ok43.2; simp only [A6] at h9; omega)
    obtain ⟨z, hz⟩ := get_some hix
    have hrow : (l.map TRec.cs)[x43.2.toNat]? = some z.cs := by (rw [List.getElem?_map, hz]; rfl)
    refine A1 rfl rfl rfl (U4 2 rfl I9 F7 (A0 rfl) rfl (A0 rfl) (by omega) (by first | omega | (simp only [A6]; omega))) ?_
    refine A1 rfl rfl rfl (q8 2 rfl (A0 rfl) rfl K7 F7 hrow (by decide)) ?_
    refine G0 rfl rfl rfl rfl Tryz.zeroValue49 rfl ?_
    intro b7
    refine D5 0 rfl rfl rfl (A0 rfl) (A0 rfl) (E2 _) rfl F7 rfl ?_
    refine A4 (A3 (A2 ?_))
    refine A1 rfl rfl rfl (B3 0 rfl B6 rfl C0 (A0 rfl) rfl) ?_
    refine A1 rfl rfl rfl (B1 0 rfl (A0 rfl) rfl D0 rfl) ?_
    refine A1 rfl rfl rfl (M9 rfl (A0 rfl) C4) ?_
    refine A4 ?_
    refine C7 (A0 rfl) ?_ ?_
    ·intro h48
     have k48 := L3 h48; try simp only [A6] at k48
     refine A2 ?_
     refine A1 rfl rfl rfl (B3 1 rfl B6 rfl C0 (A0 rfl) rfl) ?_
     refine A1 rfl rfl rfl (B1 0 rfl (A0 rfl) rfl D0 rfl) ?_
     refine A1 rfl rfl rfl (B3 1 rfl B6 rfl C0 (A0 rfl) rfl) ?_
     refine I4 2 rfl rfl rfl (A0 rfl) (A0 rfl) (K9 _ _) rfl C0 rfl ?_
     refine A4 (A2 ?_)
     refine A5 rfl rfl rfl rfl rfl ?_
     refine A1 rfl rfl rfl (F2 2 rfl (A0 rfl) rfl K7 F7 rfl) ?_
     refine A1 rfl rfl rfl (L9 rfl I9 F7 Tryz.zeroValue49 rfl rfl rfl rfl (E0 (A0 rfl) (E2 _) H6) rfl rfl) ?_
     refine L5 (by' := 88) 3 rfl rfl rfl rfl I9 Tryz.type49 rfl rfl rfl rfl rfl rfl (A0 rfl) (A0 rfl) rfl (by first | omega | (simp only [A6, A7, B2, B7, A8, szR] at *; omega)) ?_
     intro v55_1
     refine B9 rfl rfl rfl rfl rfl ?_
     refine A4 (A2 ?_)
     refine A5 rfl rfl rfl rfl rfl ?_
     refine A1 rfl rfl rfl (Q0 rfl (A0 rfl) C4 (by first | omega | (simp only [A6, A7, B2, B7, A8, szR] at *; omega))) ?_
     refine B9 rfl rfl rfl rfl rfl ?_
     refine A4 ?_
     refine n0 n cc l v t (n - 1) (x43.1) (l ++ [⟨x15.2.Kind, z.Txn, t + (1 + x18.2), x15.2.Lead, x15.2.Reads, x15.2.Writes, x15.2.Yes⟩]) (v55_1) (t + (1 + x18.2)) ?_ ?_ (Le.trans (I8 [0, 1, 0, 0] rfl) (M1 2 (by (rw [List.map_append]; rfl)) ⟨rfl, rfl, rfl, rfl, rfl, trivial⟩))
     ·exact ⟨⟨by omega, by rw [J1]; simp; omega⟩, by omega, ⟨by omega, by omega⟩, fun q hq => by (rcases List.mem_append.1 hq with hq | hq; (exact hinv.2.2.2 q hq); (rw [List.mem_singleton.1 hq]; exact ⟨ok15.2.1, by first | (dsimp only; omega) | omega, ok15.2.2.1, ok15.2.2.2.1⟩))⟩
     ·omega
    ·intro h48
     have k48 := L2 h48; try simp only [A6] at k48
     refine D2 (A2 ?_)
     refine A5 rfl rfl rfl rfl rfl ?_
     refine A1 rfl rfl rfl (F2 2 rfl (A0 rfl) rfl K7 F7 rfl) ?_
     refine A1 rfl rfl rfl (L9 rfl I9 F7 Tryz.zeroValue49 rfl rfl rfl rfl (E0 (A0 rfl) (E2 _) H6) rfl rfl) ?_
     refine L5 (by' := 88) 3 rfl rfl rfl rfl I9 Tryz.type49 rfl rfl rfl rfl rfl rfl (A0 rfl) (A0 rfl) rfl (by first | omega | (simp only [A6, A7, B2, B7, A8, szR] at *; omega)) ?_
     intro v55_2
     refine B9 rfl rfl rfl rfl rfl ?_
     refine A4 (A2 ?_)
     refine A5 rfl rfl rfl rfl rfl ?_
     refine A1 rfl rfl rfl (Q0 rfl (A0 rfl) C4 (by first | omega | (simp only [A6, A7, B2, B7, A8, szR] at *; omega))) ?_
     refine B9 rfl rfl rfl rfl rfl ?_
     refine A4 ?_
     refine n0 n cc l v t (n - 1) (x43.1) (l ++ [⟨x15.2.Kind, x15.2.Txn, t + (1 + x18.2), x15.2.Lead, x15.2.Reads, x15.2.Writes, x15.2.Yes⟩]) (v55_2) (t + (1 + x18.2)) ?_ ?_ (Le.trans (I8 [0, 1, 0, 0] rfl) (M1 2 (by (rw [List.map_append]; rfl)) ⟨rfl, rfl, rfl, rfl, rfl, trivial⟩))
     ·exact ⟨⟨by omega, by rw [J1]; simp; omega⟩, by omega, ⟨by omega, by omega⟩, fun q hq => by (rcases List.mem_append.1 hq with hq | hq; (exact hinv.2.2.2 q hq); (rw [List.mem_singleton.1 hq]; exact ⟨ok15.2.1, by first | (dsimp only; omega) | omega, ok15.2.2.1, ok15.2.2.2.1⟩))⟩
     ·omega
   ·intro h38
    refine D2 (A2 ?_)
    refine A5 rfl rfl rfl rfl rfl ?_
    refine A1 rfl rfl rfl (F2 1 rfl (A0 rfl) rfl K7 F7 rfl) ?_
    refine A1 rfl rfl rfl (L9 rfl I9 F7 Tryz.zeroValue49 rfl rfl rfl rfl (E0 (A0 rfl) (E2 _) H6) rfl rfl) ?_
    refine L5 (by' := 88) 2 rfl rfl rfl rfl I9 Tryz.type49 rfl rfl rfl rfl rfl rfl (A0 rfl) (A0 rfl) rfl (by first | omega | (simp only [A6, A7, B2, B7, A8, szR] at *; omega)) ?_
    intro v55_3
    refine B9 rfl rfl rfl rfl rfl ?_
    refine A4 (A2 ?_)
    refine A5 rfl rfl rfl rfl rfl ?_
    refine A1 rfl rfl rfl (Q0 rfl (A0 rfl) C4 (by first | omega | (simp only [A6, A7, B2, B7, A8, szR] at *; omega))) ?_
    refine B9 rfl rfl rfl rfl rfl ?_
    refine A4 ?_
    refine n0 n cc l v t (n - 1) (x18.1) (l ++ [⟨x15.2.Kind, x15.2.Txn, t + (1 + x18.2), x15.2.Lead, x15.2.Reads, x15.2.Writes, x15.2.Yes⟩]) (v55_3) (t + (1 + x18.2)) ?_ ?_ (Le.trans (I8 [1, 0, 0] rfl) (M1 1 (by (rw [List.map_append]; rfl)) ⟨rfl, rfl, rfl, rfl, rfl, trivial⟩))
    ·exact ⟨⟨by omega, by rw [J1]; simp; omega⟩, by omega, ⟨by omega, by omega⟩, fun q hq => by (rcases List.mem_append.1 hq with hq | hq; (exact hinv.2.2.2 q hq); (rw [List.mem_singleton.1 hq]; exact ⟨ok15.2.1, by first | (dsimp only; omega) | omega, ok15.2.2.1, ok15.2.2.2.1⟩))⟩
    ·omega
  ·intro h23
   have k23 := of_decide_eq_false h23; try simp only [A6] at k23
   refine D2 (A3 (A3 (A2 ?_)))
   refine A1 rfl rfl rfl (B3 0 rfl B6 rfl C0 (A0 rfl) rfl) ?_
   refine A1 rfl rfl rfl (B1 1 rfl (A0 rfl) rfl D0 rfl) ?_
   refine A1 rfl rfl rfl (M9 rfl (A0 rfl) C4) ?_
   refine A5 rfl rfl rfl rfl rfl ?_
   refine B4 rfl rfl (D4 rfl rfl rfl) (fun hc => B3 0 rfl B6 rfl C0 (A0 rfl) rfl) ?_
   refine B4 rfl rfl (D4 rfl rfl rfl) (fun hc => B1 1 rfl (B0 rfl hc) rfl D0 rfl) ?_
   refine B4 rfl rfl (D4 rfl rfl rfl) (fun hc => M9 rfl (B0 rfl hc) C4) ?_
   refine A1 rfl rfl rfl (Q4 rfl (A0 rfl) (G4 rfl)) ?_
   refine A5 rfl rfl rfl rfl rfl ?_
   refine B4 rfl rfl (C2 rfl rfl rfl) (fun hc => C6 rfl (A0 rfl)) ?_
   refine B4 rfl rfl (C2 rfl rfl rfl) (fun hc => U9 2 rfl I9 (B0 rfl hc) rfl) ?_
   refine B4 rfl rfl (C2 rfl rfl rfl) (fun hc => P8 rfl (B0 rfl hc) C4) ?_
   refine A1 rfl rfl rfl (I6 rfl (A0 rfl) (G4 rfl)) ?_
   refine A4 ?_
   refine C7 (A0 rfl) ?_ ?_
   ·intro h38
    have hll : 0 < l.length := by (cases hm : l with | nil => (rw [hm] at h38; simp at h38) | cons y q => simp)
    refine A3 (A2 ?_)
    refine A5 rfl rfl rfl rfl rfl ?_
    refine A5 rfl rfl rfl rfl rfl ?_
    refine A5 rfl rfl rfl rfl rfl ?_
    refine A1 rfl rfl rfl (U9 2 rfl I9 (A0 rfl) rfl) ?_
    refine I2 [0] rfl rfl rfl rfl Tryz.call100 rfl (T0 _ _ hcode _ _ (by simp only [A6]; omega) (by omega)) (A9 (A0 rfl) (A9 (A0 rfl) D1)) rfl ?_
    intro x43 ok43
    have hix : x43.2.toNat < l.length := by (have h9 := ok43.2; simp only [A6] at h9; omega)
    obtain ⟨z, hz⟩ := get_some hix
    have hrow : (l.map TRec.cs)[x43.2.toNat]? = some z.cs := by (rw [List.getElem?_map, hz]; rfl)
    refine A1 rfl rfl rfl (U4 2 rfl I9 F7 (A0 rfl) rfl (A0 rfl) (by omega) (by first | omega | (simp only [A6]; omega))) ?_
    refine A1 rfl rfl rfl (q8 2 rfl (A0 rfl) rfl K7 F7 hrow (by decide)) ?_
    refine G0 rfl rfl rfl rfl Tryz.zeroValue49 rfl ?_
    intro b7
    refine D5 0 rfl rfl rfl (A0 rfl) (A0 rfl) (E2 _) rfl F7 rfl ?_
    refine A4 (A3 (A2 ?_))
    refine A1 rfl rfl rfl (B3 0 rfl B6 rfl C0 (A0 rfl) rfl) ?_
    refine A1 rfl rfl rfl (B1 0 rfl (A0 rfl) rfl D0 rfl) ?_
    refine A1 rfl rfl rfl (M9 rfl (A0 rfl) C4) ?_
    refine A4 ?_
    refine C7 (A0 rfl) ?_ ?_
    ·intro h48
     have k48 := L3 h48; try simp only [A6] at k48
     refine A2 ?_
     refine A1 rfl rfl rfl (B3 1 rfl B6 rfl C0 (A0 rfl) rfl) ?_
     refine A1 rfl rfl rfl (B1 0 rfl (A0 rfl) rfl D0 rfl) ?_
     refine A1 rfl rfl rfl (B3 1 rfl B6 rfl C0 (A0 rfl) rfl) ?_
     refine I4 2 rfl rfl rfl (A0 rfl) (A0 rfl) (K9 _ _) rfl C0 rfl ?_
     refine A4 (A2 ?_)
     refine A5 rfl rfl rfl rfl rfl ?_
     refine A1 rfl rfl rfl (F2 2 rfl (A0 rfl) rfl K7 F7 rfl) ?_
     refine A1 rfl rfl rfl (L9 rfl I9 F7 Tryz.zeroValue49 rfl rfl rfl rfl (E0 (A0 rfl) (E2 _) H6) rfl rfl) ?_
     refine L5 (by' := 88) 3 rfl rfl rfl rfl I9 Tryz.type49 rfl rfl rfl rfl rfl rfl (A0 rfl) (A0 rfl) rfl (by first | omega | (simp only [A6, A7, B2, B7, A8, szR] at *; omega)) ?_
     intro v55_4
     refine B9 rfl rfl rfl rfl rfl ?_
     refine A4 (A2 ?_)
     refine A5 rfl rfl rfl rfl rfl ?_
     refine A1 rfl rfl rfl (Q0 rfl (A0 rfl) C4 (by first | omega | (simp only [A6, A7, B2, B7, A8, szR] at *; omega))) ?_
     refine B9 rfl rfl rfl rfl rfl ?_
     refine A4 ?_
     refine n0 n cc l v t (n - 1) (x43.1) (l ++ [⟨x15.2.Kind, z.Txn, x15.2.Time, x15.2.Lead, x15.2.Reads, x15.2.Writes, x15.2.Yes⟩]) (v55_4) (t + (1 + x18.2)) ?_ ?_ (Le.trans (I8 [0, 1, 0, 0] rfl) (M1 2 (by (rw [List.map_append]; rfl)) ⟨rfl, rfl, rfl, rfl, rfl, trivial⟩))
     ·exact ⟨⟨by omega, by rw [J1]; simp; omega⟩, by omega, ⟨by omega, by omega⟩, fun q hq => by (rcases List.mem_append.1 hq with hq | hq; (exact hinv.2.2.2 q hq); (rw [List.mem_singleton.1 hq]; exact ⟨ok15.2.1, by first | (dsimp only; omega) | omega, ok15.2.2.1, ok15.2.2.2.1⟩))⟩
     ·omega
    ·intro h48
     have k48 := L2 h48; try simp only [A6] at k48
     refine D2 (A2 ?_)
     refine A5 rfl rfl rfl rfl rfl ?_
     refine A1 rfl rfl rfl (F2 2 rfl (A0 rfl) rfl K7 F7 rfl) ?_
     refine A1 rfl rfl rfl (L9 rfl I9 F7 Tryz.zeroValue49 rfl rfl rfl rfl (E0 (A0 rfl) (E2 _) H6) rfl rfl) ?_
     refine L5 (by' := 88) 3 rfl rfl rfl rfl I9 Tryz.type49 rfl rfl rfl rfl rfl rfl (A0 rfl) (A0 rfl) rfl (by first | omega | (simp only [A6, A7, B2, B7, A8, szR] at *; omega)) ?_
     intro v55_5
     refine B9 rfl rfl rfl rfl rfl ?_
     refine A4 (A2 ?_)
     refine A5 rfl rfl rfl rfl rfl ?_
     refine A1 rfl rfl rfl (Q0 rfl (A0 rfl) C4 (by first | omega | (simp only [A6, A7, B2, B7, A8, szR] at *; omega))) ?_
     refine B9 rfl rfl rfl rfl rfl ?_
     refine A4 ?_
     refine n0 n cc l v t (n - 1) (x43.1) (l ++ [⟨x15.2.Kind, x15.2.Txn, x15.2.Time, x15.2.Lead, x15.2.Reads, x15.2.Writes, x15.2.Yes⟩]) (v55_5) (t + (1 + x18.2)) ?_ ?_ (Le.trans (I8 [0, 1, 0, 0] rfl) (M1 2 (by (rw [List.map_append]; rfl)) ⟨rfl, rfl, rfl, rfl, rfl, trivial⟩))
     ·exact ⟨⟨by omega, by rw [J1]; simp; omega⟩, by omega, ⟨by omega, by omega⟩, fun q hq => by (rcases List.mem_append.1 hq with hq | hq; (exact hinv.2.2.2 q hq); (rw [List.mem_singleton.1 hq]; exact ⟨ok15.2.1, by first | (dsimp only; omega) | omega, ok15.2.2.1, ok15.2.2.2.1⟩))⟩
     ·omega
   ·intro h38
    refine D2 (A2 ?_)
    refine A5 rfl rfl rfl rfl rfl ?_
    refine A1 rfl rfl rfl (F2 1 rfl (A0 rfl) rfl K7 F7 rfl) ?_
    refine A1 rfl rfl rfl (L9 rfl I9 F7 Tryz.zeroValue49 rfl rfl rfl rfl (E0 (A0 rfl) (E2 _) H6) rfl rfl) ?_
    refine L5 (by' := 88) 2 rfl rfl rfl rfl I9 Tryz.type49 rfl rfl rfl rfl rfl rfl (A0 rfl) (A0 rfl) rfl (by first | omega | (simp only [A6, A7, B2, B7, A8, szR] at *; omega)) ?_
    intro v55_6
    refine B9 rfl rfl rfl rfl rfl ?_
    refine A4 (A2 ?_)
    refine A5 rfl rfl rfl rfl rfl ?_
    refine A1 rfl rfl rfl (Q0 rfl (A0 rfl) C4 (by first | omega | (simp only [A6, A7, B2, B7, A8, szR] at *; omega))) ?_
    refine B9 rfl rfl rfl rfl rfl ?_
    refine A4 ?_
    refine n0 n cc l v t (n - 1) (x18.1) (l ++ [⟨x15.2.Kind, x15.2.Txn, x15.2.Time, x15.2.Lead, x15.2.Reads, x15.2.Writes, x15.2.Yes⟩]) (v55_6) (t + (1 + x18.2)) ?_ ?_ (Le.trans (I8 [1, 0, 0] rfl) (M1 1 (by (rw [List.map_append]; rfl)) ⟨rfl, rfl, rfl, rfl, rfl, trivial⟩))
    ·exact ⟨⟨by omega, by rw [J1]; simp; omega⟩, by omega, ⟨by omega, by omega⟩, fun q hq => by (rcases List.mem_append.1 hq with hq | hq; (exact hinv.2.2.2 q hq); (rw [List.mem_singleton.1 hq]; exact ⟨ok15.2.1, by first | (dsimp only; omega) | omega, ok15.2.2.1, ok15.2.2.2.1⟩))⟩
    ·omega
 ·intro h11
  have k11 := of_decide_eq_false h11; try simp only [A6] at k11
  refine H3 ?_
  refine A3 (A2 ?_)
  refine A5 rfl rfl rfl rfl rfl ?_
  refine B9 rfl rfl rfl rfl rfl ?_
  refine A4 ?_
  refine C8 ?_
  (refine K1 [0, 0] ((cc, l, v)) ?_ rfl (by first | (dsimp only; rfl) | rfl) (N1 rfl (C5 rfl (by rfl))); exact ⟨show cc.p ≤ _ by omega, show l.length ≤ 11 by omega, hinv.2.2.2⟩)
theorem Ap1 (b : Nat) (code : List Int) (hcode : ByteL code) (c : TCur) (hp : c.p ≤ 900000) : GSpec Tryz.prog 196 [AV.ptr b 0] [.box b 127 (curC code c)] (fun x : TCur × TState × Value × Value => x.1.p ≤ c.p + 1300 ∧ SO x.2.1 ∧ SB 33 x.2.1 ∧ x.2.1.size ≤ 33044) (fun x => .box b 127 (curC code x.1) :: TState.ow x.2.1 x.2.2) (fun x => AV.agg (TState.ocs x.2.1 x.2.2)) := by
 refine H5 Tryz.func196 rfl Tryz.ntmps196 rfl ?_
 refine A3 (A2 ?_)
 refine G0 rfl rfl rfl rfl Tryz.zeroValue30 rfl ?_
 intro b2
 refine A4 (A3 (A2 ?_))
 refine A5 rfl rfl rfl rfl rfl ?_
 refine I2 [1] rfl rfl rfl rfl Tryz.call78 rfl (AU4 _ _ hcode _ (by omega)) (A9 (A0 rfl) D1) rfl ?_
 intro x7 ok7
 refine AE3 (c7 [1] 7 rfl rfl (M6 (G6 (i := 0) rfl) J0) (T7 0 rfl rfl O5)) ?_
 refine I2 [] rfl rfl rfl rfl Tryz.call86 rfl (ofK_own x7.2.1 (by omega) (fun r hr => by have := (ok7.2.2 r hr).1; omega)) (A9 (A0 rfl) D1) rfl ?_
 intro x8 ok8
 refine A5 rfl rfl rfl rfl rfl ?_
 refine A1 rfl rfl rfl (F6 rfl (A0 rfl) rfl) ?_
 refine A1 rfl rfl rfl (F6 rfl (A0 rfl) rfl) ?_
 refine G0 rfl rfl rfl rfl Tryz.zeroValue30 rfl ?_
 intro b3
 refine D5 0 rfl rfl rfl (A0 rfl) (A0 rfl) (E2 _) rfl C1 rfl ?_
 refine B9 rfl rfl rfl rfl rfl ?_
 refine A4 (A3 ?_)
 refine L1 (by first | (simp only [TState.ow, TState.ocs, pick, O9, O6, O7, O3, N5, List.nil_append, P0, P1, List.append_nil, O4, List.take_zero, O8, List.drop_zero]; exact rfl) | exact rfl) ?_
 refine A2 ?_
 refine A1 rfl rfl rfl (F2 0 rfl (A0 rfl) rfl D6 C1 rfl) ?_
 refine D5 5 rfl rfl rfl (A0 rfl) (A0 rfl) (E2 _) rfl C1 rfl ?_
 refine A4 ?_
 refine C8 ?_
 (refine K1 [4, 1, 1] ((x7.1, stFrom zState x7.2.1, x8.1, x8.2.1)) ?_ rfl (by first | (dsimp only; rfl) | rfl) (N1 rfl (J6 (ys := _) 5 rfl rfl D6 C1 rfl)); exact ⟨ok7.1, AS0 Ac9, Au8 ⟨⟨by decide, by decide⟩, fun h hm => by cases hm⟩ (fun r hr => ⟨(ok7.2.2 r hr).2.1, (ok7.2.2 r hr).2.2⟩), Nat.le_trans (AD8 _) (st_phi ok7.2.1 fun r hr => (ok7.2.2 r hr).1)⟩)
end Go.Proofs.YtnlhbdkcgaeimaaGreat

set_option linter.unusedVariables false
set_option linter.unusedSimpArgs false
set_option maxRecDepth 100000
namespace Go.Proofs.YtnlhbdkcgaeimaaGreat
open Go Go.AV Go.M
attribute [local irreducible] OpW OpA OpS AWP FSpec ESpec GSpec OpE RetOk RetOkG RvDen Le Ev GuardIs SrcIs
end Go.Proofs.YtnlhbdkcgaeimaaGreat

set_option linter.unusedVariables false
set_option linter.unusedSimpArgs false
set_option maxRecDepth 100000
namespace Go.Proofs.YtnlhbdkcgaeimaaGreat
open Go Go.AV Go.M
attribute [local irreducible] OpW OpA OpS AWP FSpec ESpec GSpec OpE RetOk RetOkG RvDen Le Ev GuardIs SrcIs
end Go.Proofs.YtnlhbdkcgaeimaaGreat

set_option linter.unusedVariables false
set_option linter.unusedSimpArgs false
set_option maxRecDepth 100000
namespace Go.Proofs.YtnlhbdkcgaeimaaGreat
open Go Go.AV Go.M
attribute [local irreducible] OpW OpA OpS AWP FSpec ESpec GSpec OpE RetOk RetOkG RvDen Le Ev GuardIs SrcIs Int.tmod IntKind.wrap bandI
end Go.Proofs.YtnlhbdkcgaeimaaGreat

set_option linter.unusedVariables false
set_option linter.unusedSimpArgs false
set_option maxRecDepth 100000
set_option maxHeartbeats 1000000
namespace Go.Proofs.YtnlhbdkcgaeimaaGreat
open Go Go.AV Go.M
attribute [local irreducible] OpW OpA OpS AWP FSpec ESpec GSpec OpE RetOk RetOkG RvDen Le Ev GuardIs SrcIs
end Go.Proofs.YtnlhbdkcgaeimaaGreat

set_option linter.unusedVariables false
set_option linter.unusedSimpArgs false
set_option maxRecDepth 100000
set_option maxHeartbeats 1000000
namespace Go.Proofs.YtnlhbdkcgaeimaaGreat
open Go Go.AV Go.M
attribute [local irreducible] OpW OpA OpS AWP FSpec ESpec GSpec OpE RetOk RetOkG RvDen Le Ev GuardIs SrcIs
end Go.Proofs.YtnlhbdkcgaeimaaGreat

set_option linter.unusedVariables false
set_option linter.unusedSimpArgs false
namespace Go.Proofs.YtnlhbdkcgaeimaaGreat
open Go Go.Proofs Go.RowKit Go.Shelf Go.M
attribute [local go_sem] Oper.semAt_some
def upto {α : Type} (f : Nat → α) (k : Nat) : List α := (List.range k).map f
theorem Ah0 {α : Type} (f : Nat → α) (k : Nat) : upto f (k + 1) = upto f k ++ [f k] := by simp [upto, List.range_succ]
theorem As4 {α : Type} (f : Nat → α) (k : Nat) : (upto f k).length = k := by simp [upto]
def verV (v : TVer) : Value := .agg #[.int .i64 v.Time, .string ⟨v.Val.toArray⟩, .bool v.Gone]
def backF (zs : List TVer) (j : Nat) : Int × TVer := ((zs.length : Int) - 1 - j, zs[zs.length - 1 - j]?.getD default)
def VersAt (W : World) (b off : Nat) (zs : List TVer) : Prop := ∀ j v, zs[j]? = some v → W.cell? ⟨b, off + j * 3, none⟩ = some (.int .i64 v.Time) ∧ W.cell? ⟨b, off + j * 3 + 1, none⟩ = some (.string ⟨v.Val.toArray⟩) ∧ W.cell? ⟨b, off + j * 3 + 2, none⟩ = some (.bool v.Gone)
theorem VersAt.below {n₀ : Nat} {A B : World} {b off : Nat} {zs : List TVer} (h : Below n₀ A B) (hb : b < n₀) (k : VersAt A b off zs) : VersAt B b off zs := fun j v hv =>
  let ⟨h1, h2, h3⟩ := k j v hv
  ⟨(h.cell (p := ⟨b, _, none⟩) hb).trans h1, (h.cell (p := ⟨b, _, none⟩) hb).trans h2, (h.cell (p := ⟨b, _, none⟩) hb).trans h3⟩
set_option maxRecDepth 100000 in
set_option maxHeartbeats 2000000 in
theorem back1_in (F : Fence) (n : Nat) (hf : F.fn 289) (hro : F.round = none) (hn : 1 ≤ n) (l Bs n₀ b off cap : Nat) (zs : List TVer) (hreach : zs.length * 32 ≤ 140737488351232) (hb : b < n₀) (J Jx : List (Int × TVer) → World → Prop)
    (hY : ∀ pre x W, J pre W → pre.length < zs.length → YieldAt F (n - 1) Tryz.prog l #[.int .i64 x.1, verV x.2] W fun e W' =>
      (e = .returned (.bool true) ∧ J (pre ++ [x]) W' ∧ Below n₀ W W') ∨ (e = .returned (.bool false) ∧ Jx (pre ++ [x]) W'))
    (W : World) (hBs : W.cell? ⟨Bs, 0, none⟩ = some (.slice (some ⟨b, off, none⟩) zs.length cap)) (hBn : Bs < n₀) (hc : VersAt W b off zs) (h0 : J [] W) :
    CallsIn F n Tryz.prog 289 #[.func (.yield l) #[] #[], .pointer (some ⟨Bs, 0, none⟩)] W fun e W' => (∃ v, e = .returned v) ∧
      ((∃ ys, ys = upto (backF zs) zs.length ∧ J ys W') ∨ (∃ pre, (∃ k, k ≤ zs.length ∧ pre = upto (backF zs) k) ∧ Jx pre W')) := by
  refine callsIn_of_wp Tryz.func289 rfl hf ?_ hro
  simp only [Tryz.ntmps289, List.size_toArray, B2, B7, Nat.reduceAdd, Nat.reduceSub, Array.replicate_succ, Array.replicate_zero, List.push_toArray, List.append_toArray, List.nil_append, N5]
  gi_wp2
  gi_loopw [3] (fun i wr => ∃ k : Nat, k ≤ zs.length ∧ i = .int .i64 ((zs.length : Int) - 1 - k) ∧ J (upto (backF zs) k) wr ∧ Below n₀ W wr)
    (fun i _ => (intOf i + 1).toNat)
  case atStart => exact ⟨0, Nat.zero_le _, by simp, h0, Below.refl _ _⟩
  case round =>
    obtain ⟨k, hk, rfl, hJs, hnx⟩ := hrel
    have hBs' := (hnx.cell (p := ⟨Bs, 0, none⟩) hBn).trans hBs
    by_cases hlt : k < zs.length
    · have hz : zs[zs.length - 1 - k]? = some (backF zs k).2 := by unfold backF; rw [List.getElem?_eq_getElem (by omega)]; rfl
      obtain ⟨c1, c2, c3⟩ := (hc.below hnx hb) _ _ hz
      obtain ⟨fn, tmps, assign, body, hy, hR⟩ := hY _ (backF zs k) wr hJs (by rw [As4]; exact hlt)
      have e0 : ((zs.length : Int) - 1 - k).toNat = zs.length - 1 - k := by omega
      have hge : (0 : Int) ≤ (zs.length : Int) - 1 - k := by omega
      have hltl : (zs.length : Int) - 1 - k < zs.length := by omega
      dsimp only [verV] at hy
      rw [show (backF zs k).1 = (zs.length : Int) - 1 - k from rfl] at hy
      gi_wp2
      refine hR.mono ?_
      rintro e W3 (⟨rfl, hJ3, hk3⟩ | ⟨rfl, hJx3⟩)
      · gi_wp2
        go_roundw
        case rel => exact ⟨k + 1, by omega, by simp; omega, by rw [Ah0]; exact hJ3, hnx.trans hk3⟩
        case measure => simp [intOf]; omega
      · gi_wp2
        refine bodyPost_ret (results_none rfl _ _ _) rfl ?_
        exact ⟨⟨_, rfl⟩, .inr ⟨_, ⟨k + 1, by omega, (Ah0 _ _).symm⟩, hJx3⟩⟩
    · obtain rfl : k = zs.length := by omega
      gi_wp2
      go_end0
      exact ⟨⟨_, rfl⟩, .inl ⟨_, rfl, hJs⟩⟩
set_option maxRecDepth 100000 in
set_option maxHeartbeats 1000000 in
theorem Ap2 (F : Fence) (n : Nat) (hf : F.fn 289) (hro : F.round = none) (l Bs cap : Nat) (oa : Option Addr) (J : List (Int × TVer) → World → Prop) (W : World) (hBs : W.cell? ⟨Bs, 0, none⟩ = some (.slice oa 0 cap)) (h0 : J [] W) :
    CallsIn F n Tryz.prog 289 #[.func (.yield l) #[] #[], .pointer (some ⟨Bs, 0, none⟩)] W fun e W' => (∃ v, e = .returned v) ∧ J [] W' := by
  refine callsIn_of_wp Tryz.func289 rfl hf ?_ hro
  simp only [Tryz.ntmps289, List.size_toArray, B2, B7, Nat.reduceAdd, Nat.reduceSub, Array.replicate_succ, Array.replicate_zero, List.push_toArray, List.append_toArray, List.nil_append, N5]
  gi_wp2
  gi_loopw [3] (fun i wr => i = .int .i64 (-1) ∧ J [] wr) (fun _ _ => 0)
  case atStart => exact ⟨rfl, h0⟩
  case round =>
    obtain ⟨rfl, hJs⟩ := hrel
    gi_wp2
    go_end0
    exact ⟨⟨_, rfl⟩, hJs⟩
set_option maxHeartbeats 1000000 in
theorem back_in (F : Fence) (n : Nat) (hf : F.fn 264) (hro : F.round = none) (a : Option Addr) (len cap : Nat) (w : World) :
    CallsIn F n Tryz.prog 264 #[.slice a len cap] w fun e w' => e = .returned (.func (.func 289) #[] #[.pointer (some ⟨w.heap.size, 0, none⟩)]) ∧ w' = w.alloc (.cells #[.slice a len cap] 140) := by
  refine callsIn_of_wp Tryz.func264 rfl hf ?_ hro
  simp only [Tryz.ntmps264, List.size_toArray, B2, B7, Nat.reduceAdd, Nat.reduceSub, Array.replicate_succ, Array.replicate_zero, List.push_toArray, List.append_toArray, List.nil_append, N5]
  gi_wp2
  go_ret
  exact ⟨rfl, rfl⟩
def VersIn (n₀ : Nat) (W : World) (oa : Option Addr) (zs : List TVer) : Prop := zs = [] ∨ ∃ b off, oa = some ⟨b, off, none⟩ ∧ b < n₀ ∧ VersAt W b off zs
theorem Ay3 (F : Fence) (n : Nat) (hf : F.fn 289) (hro : F.round = none) (hn : 1 ≤ n) (Bs n₀ : Nat) (oa : Option Addr) (cap : Nat) (zs : List TVer) (hreach : zs.length * 32 ≤ 140737488351232) (w : World) (hBn : Bs < n₀) (hn₀ : n₀ ≤ w.heap.size)
    (hc : w.cell? ⟨Bs, 0, none⟩ = some (.slice oa zs.length cap)) (hI : VersIn n₀ w oa zs) :
    SeqStopsK F n Tryz.prog 289 #[.pointer (some ⟨Bs, 0, none⟩)] (fun x : Int × TVer => #[Value.int .i64 x.1, verV x.2]) (Below n₀) (fun ys => ys = upto (backF zs) zs.length) (fun pre => ∃ k, k ≤ zs.length ∧ pre = upto (backF zs) k) zs.length w := fun l J Jx W hW _ _ hY h0 => by
  have hc' := (hW.cell (p := ⟨Bs, 0, none⟩) (show Bs < w.heap.size by omega)).trans hc
  rcases hI with rfl | ⟨b, off, rfl, hb, hcs⟩
  · exact (Ap2 F n hf hro l Bs cap oa J W hc' h0).mono fun e W' ⟨he, hj⟩ => ⟨he, .inl ⟨_, rfl, hj⟩⟩
  · exact back1_in F n hf hro hn l Bs n₀ b off cap zs hreach hb J Jx hY W hc' hBn (hcs.below (hW.mono hn₀) hb) h0
end Go.Proofs.YtnlhbdkcgaeimaaGreat

set_option linter.unusedVariables false
set_option linter.unusedSimpArgs false
namespace Go.Proofs.YtnlhbdkcgaeimaaGreat
open Go Go.Proofs Go.RowKit Go.Shelf Go.M
attribute [local go_sem] Oper.semAt_some
theorem Ap3 (zs : List TVer) (k : Nat) (hk : k ≤ zs.length) : (upto (backF zs) k).map Prod.snd = zs.reverse.take k := by
  apply List.ext_getElem
  · simp [upto]; omega
  · intro i h1 h2
    have : i < zs.length := by simp at h2; omega
    simp [upto, backF]
    rw [List.getElem?_eq_getElem (by omega)]; rfl
theorem val_none {c : TCell} {t : Int} (h : ∀ x ∈ upto (backF c.Vers) c.Vers.length, ¬ x.2.Time ≤ t) : cellVal c t = ([], false) := by
  have e := Ap3 c.Vers c.Vers.length (Nat.le_refl _)
  rw [← List.length_reverse, List.take_length] at e
  unfold cellVal
  rw [← e, List.length_reverse]
  have : ((upto (backF c.Vers) c.Vers.length).map Prod.snd).find? (fun v => decide (v.Time ≤ t)) = none := by
    rw [List.find?_eq_none]
    intro v hv
    obtain ⟨x, hx, rfl⟩ := List.mem_map.1 hv
    simpa using h x hx
  rw [this]
theorem val_some {c : TCell} {t : Int} {k : Nat} {pre : List (Int × TVer)} {x : Int × TVer} (hk : k ≤ c.Vers.length) (he : pre ++ [x] = upto (backF c.Vers) k) (h : ∀ y ∈ pre, ¬ y.2.Time ≤ t) (hx : x.2.Time ≤ t) : cellVal c t = (x.2.Val, !x.2.Gone) := by
  have e := Ap3 c.Vers k hk
  rw [← he, List.map_append] at e
  have e2 : c.Vers.reverse = (pre.map Prod.snd ++ [x.2]) ++ c.Vers.reverse.drop k := by
    have := List.take_append_drop k c.Vers.reverse
    rw [← e] at this; exact this.symm
  unfold cellVal
  have hn : (pre.map Prod.snd).find? (fun v => decide (v.Time ≤ t)) = none := by
    rw [List.find?_eq_none]
    intro v hv
    obtain ⟨y, hy, rfl⟩ := List.mem_map.1 hv
    simpa using h y hy
  rw [e2, List.append_assoc, List.find?_append, hn, Option.none_or, List.singleton_append, List.find?_cons]
  simp only [decide_eq_true hx]
def NoneAt (t : Int) (pre : List (Int × TVer)) : Prop := ∀ x ∈ pre, ¬ x.2.Time ≤ t
def OneAt (t : Int) (pre : List (Int × TVer)) (v : TVer) : Prop := ∃ pre0 i, pre = pre0 ++ [(i, v)] ∧ NoneAt t pre0 ∧ v.Time ≤ t
theorem As5 {t : Int} {pre : List (Int × TVer)} {x : Int × TVer} (h : NoneAt t pre) (k : t < x.2.Time) : NoneAt t (pre ++ [x]) := fun y hy => by
  rcases List.mem_append.1 hy with e | e
  · exact h y e
  · simp at e; subst e; omega
set_option maxRecDepth 100000 in
set_option maxHeartbeats 4000000 in
theorem at_in (F : Fence) (n : Nat) (h1f : F.fn 213) (h2f : F.fn 264) (h3f : F.fn 289) (hro : F.round = none) (hn : 6 ≤ n) (c : TCell) (t : Int) (oa : Option Addr) (cap : Nat) (hreach : c.Vers.length * 32 ≤ 140737488351232) (w : World) (hI : VersIn w.heap.size w oa c.Vers) :
    CallsIn F n Tryz.prog 213 #[.agg #[.string ⟨c.Key.toArray⟩, .slice oa c.Vers.length cap], .int .i64 t] w fun e W' => e = .returned (.tuple #[.string ⟨(cellVal c t).1.toArray⟩, .bool (cellVal c t).2]) ∧ Below w.heap.size w W' := by
  have h1 : 1 ≤ n := by omega
  refine callsIn_of_wp_marks Tryz.func213 rfl h1f ?_ hro
  simp only [Tryz.ntmps213, List.size_toArray, B2, B7, Nat.reduceAdd, Nat.reduceSub, Array.replicate_succ, Array.replicate_zero, List.push_toArray, List.append_toArray, List.nil_append, N5]
  gi_wp2_with (gi_at_call 264; refine (back_in F (n - 1) h2f hro _ _ _ _).mono ?_; rintro e w' ⟨rfl, rfl⟩)
  have b3 := (((Boxed.new (w.alloc (.cells #[.string ⟨c.Key.toArray⟩, .slice oa c.Vers.length cap] 142)) 3 (.int .i64 t)).alloc (.cells #[.string { data := #[] }] 9)).alloc (.cells #[.bool false] 4)).alloc (.cells #[.slice oa c.Vers.length cap] 140)
  have b4 := ((Boxed.new ((w.alloc (.cells #[.string ⟨c.Key.toArray⟩, .slice oa c.Vers.length cap] 142)).alloc (.cells #[.int .i64 t] 3)) 9 (.string { data := #[] })).alloc (.cells #[.bool false] 4)).alloc (.cells #[.slice oa c.Vers.length cap] 140)
  have b5 := (Boxed.new (((w.alloc (.cells #[.string ⟨c.Key.toArray⟩, .slice oa c.Vers.length cap] 142)).alloc (.cells #[.int .i64 t] 3)).alloc (.cells #[.string { data := #[] }] 9)) 4 (.bool false)).alloc (.cells #[.slice oa c.Vers.length cap] 140)
  have bs := Boxed.new ((((w.alloc (.cells #[.string ⟨c.Key.toArray⟩, .slice oa c.Vers.length cap] 142)).alloc (.cells #[.int .i64 t] 3)).alloc (.cells #[.string { data := #[] }] 9)).alloc (.cells #[.bool false] 4)) 140 (.slice oa c.Vers.length cap)
  simp only [World.size_alloc] at b3 b4 b5 bs
  have hB0 : Below w.heap.size w (((((w.alloc (.cells #[.string ⟨c.Key.toArray⟩, .slice oa c.Vers.length cap] 142)).alloc (.cells #[.int .i64 t] 3)).alloc (.cells #[.string { data := #[] }] 9)).alloc (.cells #[.bool false] 4)).alloc (.cells #[.slice oa c.Vers.length cap] 140)) := (((((Below.refl _ w).alloc (Nat.le_refl _) _).alloc (by simp) _).alloc (by simp; omega) _).alloc (by simp; omega) _).alloc (by simp; omega) _
  have hsz : (((((w.alloc (.cells #[.string ⟨c.Key.toArray⟩, .slice oa c.Vers.length cap] 142)).alloc (.cells #[.int .i64 t] 3)).alloc (.cells #[.string { data := #[] }] 9)).alloc (.cells #[.bool false] 4)).alloc (.cells #[.slice oa c.Vers.length cap] 140)).heap.size = w.heap.size + 5 := by simp
  obtain ⟨W0, hW0⟩ : ∃ W0, ((((w.alloc (.cells #[.string ⟨c.Key.toArray⟩, .slice oa c.Vers.length cap] 142)).alloc (.cells #[.int .i64 t] 3)).alloc (.cells #[.string { data := #[] }] 9)).alloc (.cells #[.bool false] 4)).alloc (.cells #[.slice oa c.Vers.length cap] 140) = W0 := ⟨_, rfl⟩
  rw [hW0] at b3 b4 b5 bs hB0 hsz ⊢
  clear hW0
  have hI0 : VersIn W0.heap.size W0 oa c.Vers := by
    rcases hI with h | ⟨b, off, e, hb, hv⟩
    · exact .inl h
    · exact .inr ⟨b, off, e, by omega, hv.below hB0 hb⟩
  refine wpIn_rangeFunc_ownH hro h1 (gf := 289) (lb := #[.pointer (some ⟨w.heap.size + 1 + 1 + 1 + 1, 0, none⟩)]) rfl h3f (enters_of Tryz.func289 (by kernel_rfl) rfl)
    (Ay3 F (n - 1) h3f hro (by omega) (w.heap.size + 1 + 1 + 1 + 1) W0.heap.size oa cap c.Vers hreach W0 (by omega) (Nat.le_refl _) bs.cell hI0) belowK_t (belowK_b (Nat.le_refl _)) (Below.refl _ _) (fun _ => rfl)
    (fun pre W => (((NoneAt t pre ∧ Boxed W (w.heap.size + 1) 3 (.int .i64 t)) ∧ Boxed W (w.heap.size + 1 + 1) 9 (.string { data := #[] })) ∧ Boxed W (w.heap.size + 1 + 1 + 1) 4 (.bool false)) ∧ (Below w.heap.size w W ∧ Below W0.heap.size W0 W))
    (fun cd pre W => (∃ v, (((cd = .ret ∧ OneAt t pre v) ∧ Boxed W (w.heap.size + 1 + 1) 9 (.string ⟨v.Val.toArray⟩)) ∧ Boxed W (w.heap.size + 1 + 1 + 1) 4 (.bool (!v.Gone)))) ∧ Below w.heap.size w W)
    (OwnFrom.and (OwnFrom.and (OwnFrom.and (OwnFrom.and (ownFrom_pure _ _) (Own.from (boxed_own _ _ _) _)) (Own.from (boxed_own _ _ _) _)) (Own.from (boxed_own _ _ _) _)) (OwnFrom.and (ownFrom_below (Nat.le_refl _) (by omega)) (ownFrom_below (Nat.le_refl _) (Nat.le_refl _))))
    (fun cd => OwnFrom.and (fun s X Y row hs hg hr => by
      obtain ⟨v, ⟨e1, e2⟩, e3⟩ := hs
      exact ⟨v, ⟨e1, boxed_own _ _ (fun (_ : Unit) => Value.string ⟨v.Val.toArray⟩) () X Y row e2 hg (fun r e => (hr r e).2)⟩, boxed_own _ _ (fun (_ : Unit) => Value.bool (!v.Gone)) () X Y row e3 hg (fun r e => (hr r e).2)⟩) (ownFrom_below (Nat.le_refl _) (by omega)))
    ⟨⟨⟨⟨fun _ h => by simp at h, b3⟩, b4⟩, b5⟩, hB0, Below.refl _ _⟩
    (fun x a' W => ∃ Bx, w.heap.size + 1 + 1 + 1 < Bx ∧ (W.cell? ⟨Bx, 0, none⟩ = some (.int .i64 x.2.Time) ∧ W.cell? ⟨Bx, 1, none⟩ = some (.string ⟨x.2.Val.toArray⟩) ∧ W.cell? ⟨Bx, 2, none⟩ = some (.bool x.2.Gone)) ∧ a' = { tmps := #[.agg #[.string ⟨c.Key.toArray⟩, .slice oa c.Vers.length cap], .int .i64 t, .pointer (some ⟨w.heap.size, 0, none⟩), .pointer (some ⟨w.heap.size + 1, 0, none⟩), .pointer (some ⟨w.heap.size + 1 + 1, 0, none⟩), .pointer (some ⟨w.heap.size + 1 + 1 + 1, 0, none⟩), undef, .pointer (some ⟨Bx, 0, none⟩), .pointer (some ⟨w.heap.size, 1, none⟩), .slice oa c.Vers.length cap, .func (.func 289) #[] #[.pointer (some ⟨w.heap.size + 1 + 1 + 1 + 1, 0, none⟩)], .int .i64 x.1, verV x.2, undef, undef, undef, undef, undef, undef, undef, undef, undef], defers := [] })
    (fun x a' _ X Y row hs hg hr => by
      obtain ⟨Bx, e1, ⟨e2, e3, e4⟩, e5⟩ := hs
      exact ⟨Bx, e1, ⟨cell_kept e2 hg (fun r e => (hr r e).2), cell_kept e3 hg (fun r e => (hr r e).2), cell_kept e4 hg (fun r e => (hr r e).2)⟩, e5⟩)
    ?assign ?body ?done ?stop
  case assign =>
    rintro l pre x W K ⟨⟨⟨⟨hp, bt⟩, bv⟩, bg⟩, hB1, hB2⟩ hK
    dsimp only [verV]
    have hW0 := hB2.size
    gi_wp2
    refine hK _ _ ((KeepsOthers.alloc _ _).from _) ((Below.refl _ W).alloc (by omega) _) ⟨⟨⟨⟨hp, bt.alloc _⟩, bv.alloc _⟩, bg.alloc _⟩, hB1.alloc hB1.size _, hB2.alloc hB2.size _⟩ ⟨W.heap.size, bg.lt, ⟨?_, ?_, ?_⟩, rfl⟩
    · unfold World.cell?; rw [World.alloc_heap_new]; rfl
    · unfold World.cell?; rw [World.alloc_heap_new]; rfl
    · unfold World.cell?; rw [World.alloc_heap_new]; rfl
  case body =>
    rintro l pre x a' W hl ⟨r, hr⟩ ⟨⟨⟨⟨hp, bt⟩, bv⟩, bg⟩, hB1, hB2⟩ ⟨Bx, hBx, ⟨c1, c2, c3⟩, rfl⟩ hlt
    have ct := bt.cell
    have cv := bv.cell
    have fv := bv.frozen
    have cg := bg.cell
    have fg := bg.frozen
    dsimp only [verV]
    gi_wp2
    · have hxy : x.2.Time ≤ t := by assumption
      have bv2 := (bv.set (.string ⟨x.2.Val.toArray⟩)).other (show w.heap.size + 1 + 1 ≠ w.heap.size + 1 + 1 + 1 by omega) (.bool (!x.2.Gone))
      have bg2 := (bg.other (show w.heap.size + 1 + 1 + 1 ≠ w.heap.size + 1 + 1 by omega) (.string ⟨x.2.Val.toArray⟩)).set (.bool (!x.2.Gone))
      have hB3 := (hB1.setCell (p := ⟨w.heap.size + 1 + 1, 0, none⟩) (by simp; omega) (.string ⟨x.2.Val.toArray⟩)).setCell (p := ⟨w.heap.size + 1 + 1 + 1, 0, none⟩) (by simp; omega) (.bool (!x.2.Gone))
      have hone : OneAt t (pre ++ [x]) x.2 := ⟨pre, x.1, rfl, hp, hxy⟩
      gi_region
      all_goals gi_wp2
      all_goals exact ⟨((KeepsOthers.setCell _ _ _).trans ((KeepsOthers.setCell _ _ _).trans (KeepsOthers.drew _))).from _, ⟨x.2, ⟨⟨rfl, hone⟩, bv2⟩, bg2⟩, hB3.drew⟩
    · rename_i hxy
      exact ⟨KeepsFrom.refl _ _, Below.refl _ _, ⟨⟨⟨As5 hp hxy, bt⟩, bv⟩, bg⟩, hB1, hB2⟩
  case done =>
    rintro D zs W hD rfl ⟨⟨⟨⟨hp, bt⟩, bv⟩, bg⟩, hB1, hB2⟩ hK
    have cv := bv.cell
    have fv := bv.frozen
    have cg := bg.cell
    have fg := bg.frozen
    gi_wp2
    have hK1 := (KeepsOthers.setCell W ⟨w.heap.size + 1 + 1, 0, none⟩ (.string { data := #[] })).same D _ hK rfl
    have hK' := (KeepsOthers.setCell _ ⟨w.heap.size + 1 + 1 + 1, 0, none⟩ (.bool false)).same D _ hK1 rfl
    refine ⟨by simp, .inl ⟨_, _, rfl, run_takeDeferred hK', ?_⟩⟩
    have bv2 := (bv.set (.string { data := #[] })).other (show w.heap.size + 1 + 1 ≠ w.heap.size + 1 + 1 + 1 by omega) (.bool false)
    have bg2 := (bg.other (show w.heap.size + 1 + 1 + 1 ≠ w.heap.size + 1 + 1 by omega) (.string { data := #[] })).set (.bool false)
    have hc4 := cell_kept bv2.cell (grownBy_putObj' _ D (.deferred none)) (fun r e => by cases e; exact ⟨_, hK', rfl⟩)
    have hc5 := cell_kept bg2.cell (grownBy_putObj' _ D (.deferred none)) (fun r e => by cases e; exact ⟨_, hK', rfl⟩)
    refine ⟨.tuple #[.string { data := #[] }, .bool false], ?_, by rw [val_none hp], ((hB1.setCell (p := ⟨w.heap.size + 1 + 1, 0, none⟩) (by simp; omega) _).setCell (p := ⟨w.heap.size + 1 + 1 + 1, 0, none⟩) (by simp; omega) _).trans (belowK_b (w := w) (Nat.le_refl _) _ D _ _ (by omega) hK' rfl rfl)⟩
    simp [results, Tryz.f213, go_sem, hc4, hc5]
  case stop =>
    rintro D cd pre W hD ⟨k, hk, hpre⟩ ⟨⟨v, ⟨⟨rfl, hone⟩, bv⟩, bg⟩, hB1⟩ hK
    gi_wp2
    refine ⟨by simp, .inl ⟨_, _, rfl, run_takeDeferred hK, ?_⟩⟩
    have hc4 := cell_kept bv.cell (grownBy_putObj' _ D (.deferred none)) (fun r e => by cases e; exact ⟨_, hK, rfl⟩)
    have hc5 := cell_kept bg.cell (grownBy_putObj' _ D (.deferred none)) (fun r e => by cases e; exact ⟨_, hK, rfl⟩)
    obtain ⟨pre0, i, he, hn0, hvt⟩ := hone
    have hval := val_some (x := (i, v)) hk (he.symm.trans hpre) hn0 hvt
    refine ⟨.tuple #[.string ⟨v.Val.toArray⟩, .bool (!v.Gone)], ?_, by rw [hval], hB1.trans (belowK_b (w := w) (Nat.le_refl _) W D _ _ (by omega) hK rfl rfl)⟩
    simp [results, Tryz.f213, go_sem, hc4, hc5]
open Go.AV in
open Go.AV in
theorem at_spec (c : TCell) (t : Int) (hs : c.Vers.length ≤ 4194304) : FSpec Tryz.prog 213 [AV.agg c.cs, AV.int t] (AV.tup [AV.str (cellVal c t).1, AV.bool (cellVal c t).2]) := fspec_mk fun R w vs hr hd => by
  obtain ⟨v0, v1, rfl⟩ : ∃ a b, vs = [a, b] := by
    match vs, hd.1 with
    | [a, b], _ => exact ⟨a, b, rfl⟩
  obtain ⟨us, rfl, hdc⟩ := hd.2 0 v0 _ rfl rfl
  have d1 : v1 = .int .i64 t := hd.2 1 v1 _ rfl rfl
  subst d1
  obtain ⟨u0, u1, rfl⟩ : ∃ a b, us = [a, b] := by
    match us, hdc.1 with
    | [a, b], _ => exact ⟨a, b, rfl⟩
  have e0 : u0 = .string ⟨c.Key.toArray⟩ := (hdc.2 0 u0 _ rfl rfl).1
  subst e0
  obtain ⟨oa, cap, e1, h1, h2, h3, h4⟩ := (hdc.2 1 u1 _ rfl rfl).1
  subst e1
  have hI : VersIn w.heap.size w oa c.Vers := by
    by_cases hn : c.Vers = []
    · exact .inl hn
    · obtain ⟨a, rfl, hca⟩ := h4 (by simpa using hn)
      have hget : ∀ (j : Nat) (v : TVer) (i : Nat) (x : AV), c.Vers[j]? = some v → (TVer.cs v)[i]? = some x → ∃ u, rcell R (a.add (j * 3 + i)) = some u ∧ x.den R u ∧ u.oneCell' = true := fun j v i x hj hx =>
        hca _ x (Z3 h3 (by rw [List.getElem?_map, hj]; rfl) hx)
      obtain ⟨b, off, sp⟩ := a
      have hsp : sp = none := by
        obtain ⟨v, hv⟩ := get_some (show 0 < c.Vers.length from List.length_pos_iff.2 hn)
        obtain ⟨u, hu, _⟩ := hget 0 v 0 _ hv rfl
        unfold rcell at hu
        cases sp with
        | none => rfl
        | some s => simp [Addr.add] at hu; split at hu <;> cases hu
      subst hsp
      refine .inr ⟨b, off, rfl, ?_, fun j v hj => ?_⟩
      · obtain ⟨v, hv⟩ := get_some (show 0 < c.Vers.length from List.length_pos_iff.2 hn)
        obtain ⟨u, hu, _⟩ := hget 0 v 0 _ hv rfl
        unfold rcell at hu
        split at hu
        · rename_i hb
          exact (Array.getElem?_eq_some_iff.1 (hr _ _ hb)).1
        · cases hu
      · obtain ⟨x0, k0, k0', _⟩ := hget j v 0 _ hj rfl
        obtain ⟨x1, k1, k1', _⟩ := hget j v 1 _ hj rfl
        obtain ⟨x2, k2, k2', _⟩ := hget j v 2 _ hj rfl
        have k0'' : x0 = .int .i64 v.Time := k0'
        have k1'' : x1 = .string ⟨v.Val.toArray⟩ := k1'
        have k2'' : x2 = .bool v.Gone := k2'
        subst k0''; subst k1''; subst k2''
        rw [show ((⟨b, off, none⟩ : Addr).add (j * 3 + 0)) = ⟨b, off + j * 3, none⟩ by simp [Addr.add]] at k0
        rw [show ((⟨b, off, none⟩ : Addr).add (j * 3 + 1)) = ⟨b, off + j * 3 + 1, none⟩ by simp [Addr.add, Nat.add_assoc]] at k1
        rw [show ((⟨b, off, none⟩ : Addr).add (j * 3 + 2)) = ⟨b, off + j * 3 + 2, none⟩ by simp [Addr.add, Nat.add_assoc]] at k2
        exact ⟨j7 hr k0, j7 hr k1, j7 hr k2⟩
  refine (callsIn_wide (n := 8)).1 ?_
  have hl : (c.Vers.map TVer.cs).length = c.Vers.length := A6 _
  rw [show ([Value.agg [.string ⟨c.Key.toArray⟩, .slice oa (c.Vers.map TVer.cs).length cap].toArray, .int .i64 t] : List Value).toArray = #[.agg #[.string ⟨c.Key.toArray⟩, .slice oa c.Vers.length cap], .int .i64 t] from by rw [hl]]
  refine (at_in Fence.wide 8 trivial trivial trivial rfl (by omega) c t oa cap (by omega) w hI).mono ?_
  rintro e W' ⟨rfl, hB⟩
  refine ⟨_, R, rfl, ⟨[.string ⟨(cellVal c t).1.toArray⟩, .bool (cellVal c t).2], rfl, DenV.cons rfl (DenV.cons rfl (DenV.nil R))⟩, fun b o hb => ?_, fun _ _ => rfl, hB⟩
  have := hr b o hb
  rw [hB.block b (Array.getElem?_eq_some_iff.1 this).1]; exact this
end Go.Proofs.YtnlhbdkcgaeimaaGreat

set_option linter.unusedVariables false
set_option linter.unusedSimpArgs false
set_option maxRecDepth 100000
namespace Go.Proofs.YtnlhbdkcgaeimaaGreat
open Go Go.AV Go.M
attribute [local irreducible] OpW OpA OpS AWP FSpec ESpec RetOk RvDen Le Ev GuardIs
theorem Ap4 (l : List TCell) (t : Int) (hs : sizeL TCell.size l ≤ 4194304) : FSpec Tryz.prog 113 [AV.list 2 (l.map TCell.cs), AV.int t] (AV.list 3 ((cellsAt l t).map TWrite.cs)) := by
 have hl : l.length ≤ 4194304 := Nat.le_trans O2 hs
 refine E7 Tryz.func113 rfl Tryz.ntmps113 rfl ?_
 refine A3 (A2 ?_)
 refine A1 rfl rfl rfl (C3 rfl (n3 (sz := 3))) ?_
 refine A4 (A3 (A2 ?_))
 refine S4 rfl rfl rfl rfl F3 H7 ?_
 intro v10
 refine B9 rfl rfl rfl rfl rfl ?_
 refine A4 (A3 (A3 (A2 ?_)))
 refine A5 rfl rfl rfl rfl rfl ?_
 refine A1 rfl rfl rfl (G9 rfl D8 (A0 rfl)) ?_
 refine A1 rfl rfl rfl (C6 rfl C4) ?_
 refine A4 (D7 ?_)
 refine R8 [(1, _), (4, _), (11, _), (12, _)] _ (fun (i : Nat) (v : Value) => i ≤ l.length) (fun (i : Nat) (v : Value) => [.arr v 77 3 ((cellsAt (l.take i) t).map TWrite.cs)]) (fun (i : Nat) (v : Value) => [(5, AV.is v), (13, AV.int i)]) (fun (i : Nat) (v : Value) => l.length - i) (0) (v10) ?_ (S7 (by rfl) ⟨rfl, rfl, rfl, rfl, rfl, rfl, trivial⟩) ?_
 ·exact Nat.zero_le _
 intro i v hinv
 refine A3 (A2 ?_)
 refine A1 rfl rfl rfl (K6 rfl (A0 rfl) (A0 rfl)) ?_
 refine A4 (A3 ?_)
 refine C7 (A0 rfl) ?_ ?_
 ·intro h14
  have k14 := of_decide_eq_true h14; try simp only [A6] at k14
  have hlt : i < l.length := by omega
  obtain ⟨x, hx⟩ := get_some hlt
  have hcl := (d5 (Nat.le_trans (V6 hx) hs)).2.1
  have hct := Al4 (t := t) hx
  have hcn := Aq4 (l.take i) t
  have htl : (l.take i).length = i := by rw [A7]; omega
  refine D2 (A3 (D7 (A3 (A2 ?_))))
  refine A1 rfl rfl rfl (I7 rfl D8 F0 (A0 rfl) (A0 rfl) hx (by first | omega | (simp only [A6, A7, B2, B7, A8, szR] at *; omega))) ?_
  refine A1 rfl rfl rfl (K4 rfl (A0 rfl) S9 F0) ?_
  refine G0 rfl rfl rfl rfl Tryz.zeroValue142 rfl ?_
  intro b7
  refine D5 0 rfl rfl rfl (A0 rfl) (A0 rfl) (E2 _) rfl F0 rfl ?_
  refine A4 (A3 (A2 ?_))
  refine A1 rfl rfl rfl (F2 0 rfl (A0 rfl) rfl S9 F0 rfl) ?_
  refine A5 rfl rfl rfl rfl rfl ?_
  refine A1 rfl rfl rfl (E5 rfl Tryz.call213 rfl (at_spec _ _ (by omega)) (A9 (A0 rfl) (A9 (A0 rfl) D1))) ?_
  refine A5 rfl rfl rfl rfl rfl ?_
  refine A1 rfl rfl rfl (F6 rfl (A0 rfl) rfl) ?_
  refine A1 rfl rfl rfl (F6 rfl (A0 rfl) rfl) ?_
  refine B9 rfl rfl rfl rfl rfl ?_
  refine B9 rfl rfl rfl rfl rfl ?_
  refine A4 (A3 (A2 ?_))
  refine A5 rfl rfl rfl rfl rfl ?_
  refine A4 ?_
  refine C7 (A0 rfl) ?_ ?_
  ·intro h23
   have hout : (cellsAt (l.take i) t).map TWrite.cs ++ [TWrite.cs ⟨x.Key, (cellVal x t).1, false⟩] = (cellsAt (l.take (i + 1)) t).map TWrite.cs := by rw [hct, if_pos h23, List.map_append]; rfl
   refine A2 ?_
   refine A5 rfl rfl rfl rfl rfl ?_
   refine A1 rfl rfl rfl (B3 0 rfl G5 rfl F5 (A0 rfl) rfl) ?_
   refine A1 rfl rfl rfl (B1 0 rfl (A0 rfl) rfl H1 rfl) ?_
   refine A5 rfl rfl rfl rfl rfl ?_
   refine A1 rfl rfl rfl (N0 (places := #[(0, 1), (1, 1), (2, 1)]) rfl I1 Tryz.zeroValue77 (fun w => by kernel_rfl) rfl (E0 (A0 rfl) (P6 _) (E0 (A0 rfl) (P6 _) H6)) rfl) ?_
   refine A1 rfl rfl rfl (L9 rfl F3 H7 Tryz.zeroValue77 rfl rfl rfl rfl (E0 (A0 rfl) (E2 _) H6) rfl rfl) ?_
   refine L5 (by' := 40) 1 rfl rfl rfl rfl F3 Tryz.type77 rfl rfl rfl rfl rfl rfl (A0 rfl) (A0 rfl) rfl (by rw [A6, A8]; omega) ?_
   intro v30_1
   refine B9 rfl rfl rfl rfl rfl ?_
   refine A4 (A2 ?_)
   refine A1 rfl rfl rfl (G7 rfl (A0 rfl) C4 (by first | omega | (simp only [A6, A7, B2, B7, A8, szR] at *; omega))) ?_
   refine A5 rfl rfl rfl rfl rfl ?_
   refine A4 ?_
   refine Q1 i v (i + 1) (v30_1) ?_ ?_ (Le.trans (I8 [0, 0] rfl) (M1 1 (by first | exact congrArg (fun z => [Own.arr _ 77 3 z]) hout) ⟨rfl, rfl, rfl, rfl, rfl, rfl, trivial⟩))
   ·omega
   ·omega
  ·intro h23
   have hout : (cellsAt (l.take i) t).map TWrite.cs = (cellsAt (l.take (i + 1)) t).map TWrite.cs := by rw [hct, if_neg (by rw [h23]; decide), List.append_nil]
   refine D2 (A2 ?_)
   refine A1 rfl rfl rfl (G7 rfl (A0 rfl) C4 (by first | omega | (simp only [A6, A7, B2, B7, A8, szR] at *; omega))) ?_
   refine A5 rfl rfl rfl rfl rfl ?_
   refine A4 ?_
   refine Q1 i v (i + 1) (v) ?_ ?_ (Le.trans (I8 [0, 0] rfl) (M1 1 (by first | exact congrArg (fun z => [Own.arr _ 77 3 z]) hout) ⟨rfl, rfl, rfl, rfl, rfl, rfl, trivial⟩))
   ·omega
   ·omega
 ·intro h14
  have k14 := of_decide_eq_false h14; try simp only [A6] at k14
  have hge : l.length ≤ i := by omega
  rw [List.take_of_length_le hge]
  refine H3 ?_
  refine A3 (A2 ?_)
  refine A5 rfl rfl rfl rfl rfl ?_
  refine B9 rfl rfl rfl rfl rfl ?_
  refine A4 ?_
  refine C8 ?_
  refine Ak1 0 4 rfl rfl ?_
  exact H9 rfl (C5 rfl (by rfl))
theorem AL8 (l : List TCell) (t : Int) (hs : sizeL TCell.size l ≤ 4194304) : FSpec Tryz.prog 30 [AV.list 2 (l.map TCell.cs), AV.int t] (AV.tup [AV.list 3 ((cellsAtR l t).1.map TWrite.cs), AV.bool (cellsAtR l t).2]) := by
 refine E7 Tryz.func30 rfl Tryz.ntmps30 rfl ?_
 refine A3 (A2 ?_)
 refine A1 rfl rfl rfl (C3 rfl (n3 (sz := 3))) ?_
 refine A1 rfl rfl rfl (C3 rfl F4) ?_
 refine A4 (A3 (A3 (A2 ?_)))
 refine A5 rfl rfl rfl rfl rfl ?_
 refine A1 rfl rfl rfl (E5 rfl Tryz.call91 rfl (u3 _ (by first | assumption | omega)) (A9 (A0 rfl) D1)) ?_
 refine A1 rfl rfl rfl (M2 rfl (A0 rfl)) ?_
 refine A5 rfl rfl rfl rfl rfl ?_
 refine B4 rfl rfl (D4 rfl rfl rfl) (fun hc => C6 rfl (A0 rfl)) ?_
 refine B4 rfl rfl (D4 rfl rfl rfl) (fun hc => E5 rfl Tryz.call90 rfl (AG1 _) (A9 (B0 rfl hc) D1)) ?_
 refine B4 rfl rfl (D4 rfl rfl rfl) (fun hc => M2 rfl (B0 rfl hc)) ?_
 refine A1 rfl rfl rfl (Q4 rfl (A0 rfl) (G4 rfl)) ?_
 refine A4 ?_
 refine C7 (A0 rfl) ?_ ?_
 ·intro h13
  have he : cellsAtR l t = ([], false) := by unfold cellsAtR; rw [if_pos h13]
  rw [he]
  refine A3 (A2 ?_)
  refine A1 rfl rfl rfl (C3 rfl (n3 (sz := 3))) ?_
  refine A1 rfl rfl rfl (C3 rfl F4) ?_
  refine A4 ?_
  refine C8 ?_
  exact X2 rfl (by decide) (E6 (C5 rfl (by rfl)) (E6 (C5 rfl (by rfl)) K8))
 ·intro h13
  have he : cellsAtR l t = (cellsAt l t, true) := by unfold cellsAtR; rw [if_neg (by rw [h13]; decide)]
  rw [he]
  refine D2 (A3 (A2 ?_))
  refine A5 rfl rfl rfl rfl rfl ?_
  refine A5 rfl rfl rfl rfl rfl ?_
  refine A1 rfl rfl rfl (E5 rfl Tryz.call113 rfl (Ap4 _ _ (by first | assumption | omega)) (A9 (A0 rfl) (A9 (A0 rfl) D1))) ?_
  refine B9 rfl rfl rfl rfl rfl ?_
  refine A1 rfl rfl rfl (C3 rfl F4) ?_
  refine A4 ?_
  refine C8 ?_
  exact X2 rfl (by decide) (E6 (C5 rfl (by rfl)) (E6 (C5 rfl (by rfl)) K8))
theorem AW7 (a b : List TWrite) : FSpec Tryz.prog 27 [AV.list 3 (a.map TWrite.cs), AV.list 3 (b.map TWrite.cs)] (AV.bool (decide (a = b))) := by
 refine E7 Tryz.func27 rfl Tryz.ntmps27 rfl ?_
 refine T1 (t := 0) rfl fun hl => ?_
 try simp only [A6] at hl
 refine A3 (A2 ?_)
 refine A1 rfl rfl rfl (C3 rfl F4) ?_
 refine A4 (A3 (A3 (A2 ?_)))
 refine A5 rfl rfl rfl rfl rfl ?_
 refine A1 rfl rfl rfl (G9 rfl F3 (A0 rfl)) ?_
 refine A5 rfl rfl rfl rfl rfl ?_
 refine A1 rfl rfl rfl (G9 rfl F3 (A0 rfl)) ?_
 refine A1 rfl rfl rfl (g8 rfl (A0 rfl) (A0 rfl)) ?_
 refine A4 ?_
 refine C7 (A0 rfl) ?_ ?_
 ·intro h10
  have k10 := i9 h10; try simp only [A6] at k10
  have hab : a ≠ b := by intro hc; subst hc; exact k10 rfl
  refine A3 (A2 ?_)
  refine A1 rfl rfl rfl (C3 rfl F4) ?_
  refine A4 ?_
  refine C8 ?_
  exact H9 rfl (C5 rfl (by exact congrArg AV.bool (by simp [hab])))
 ·intro h10
  have k10 := V5 h10; try simp only [A6] at k10
  have heq : a.length = b.length := by omega
  refine D2 (A3 (A3 (A2 ?_)))
  refine A5 rfl rfl rfl rfl rfl ?_
  refine A1 rfl rfl rfl (G9 rfl F3 (A0 rfl)) ?_
  refine A1 rfl rfl rfl (C6 rfl C4) ?_
  refine A4 (D7 ?_)
  refine J9 [(0, _), (1, _), (12, _)] _ (fun (i : Nat) => i ≤ a.length ∧ a.take i = b.take i) (fun (i : Nat) => []) (fun (i : Nat) => [(13, AV.int i)]) (fun (i : Nat) => a.length - i) (0) ?_ (J8 ⟨rfl, rfl, rfl, rfl, trivial⟩) ?_
  ·exact ⟨Nat.zero_le _, rfl⟩
  intro i hinv
  refine A3 (A2 ?_)
  refine A1 rfl rfl rfl (K6 rfl (A0 rfl) (A0 rfl)) ?_
  refine A4 (A3 ?_)
  refine C7 (A0 rfl) ?_ ?_
  ·intro h14
   have k14 := of_decide_eq_true h14; try simp only [A6] at k14
   have hlt : i < a.length := by omega
   obtain ⟨x, hx⟩ := get_some hlt
   obtain ⟨y, hy⟩ := get_some (show i < b.length by omega)
   refine D2 (A3 (D7 (A3 (A2 ?_))))
   refine A5 rfl rfl rfl rfl rfl ?_
   refine B9 rfl rfl rfl rfl rfl ?_
   refine A4 (A3 ?_)
   refine K3 (by kernel_rfl) (by kernel_rfl) rfl ?_
   refine B5 rfl rfl (C6 rfl (A0 rfl)) ?_
   refine B5 rfl rfl (C6 rfl (A0 rfl)) ?_
   refine B5 rfl rfl (I7 rfl F3 H7 (A0 rfl) (A0 rfl) hx (by first | omega | (simp only [A6, A7, B2, B7, A8, szR] at *; omega))) ?_
   refine B5 rfl rfl (K4 rfl (A0 rfl) S5 H7) ?_
   refine B5 rfl rfl (C6 rfl (A0 rfl)) ?_
   refine B5 rfl rfl (C6 rfl (A0 rfl)) ?_
   refine B5 rfl rfl (I7 rfl F3 H7 (A0 rfl) (A0 rfl) hy (by first | omega | (simp only [A6, A7, B2, B7, A8, szR] at *; omega))) ?_
   refine B5 rfl rfl (K4 rfl (A0 rfl) S5 H7) ?_
   refine B5 rfl rfl (AX5 rfl I1 (by kernel_rfl) (by kernel_rfl) (A0 rfl) (A0 rfl) (c4 (by kernel_rfl) H1 rfl rfl (AH0 N4) (c4 (by kernel_rfl) H1 rfl rfl (AH0 N4) (c4 (by kernel_rfl) L0 rfl rfl (AI7 T4) AQ8)))) ?_
   refine O1 ?_
   refine C7 (A0 rfl) ?_ ?_
   ·intro h24
    have hab : a ≠ b := by intro hc; subst hc; rw [hx] at hy; injection hy with hy; subst hy; simp at h24
    refine A3 (A2 ?_)
    refine A1 rfl rfl rfl (C3 rfl F4) ?_
    refine A4 ?_
    refine C8 ?_
    exact H9 rfl (C5 rfl (by exact congrArg AV.bool (by simp [hab])))
   ·intro h24
    refine D2 (A2 ?_)
    refine A1 rfl rfl rfl (G7 rfl (A0 rfl) C4 (by first | omega | (simp only [A6, A7, B2, B7, A8, szR] at *; omega))) ?_
    refine A5 rfl rfl rfl rfl rfl ?_
    refine A4 ?_
    refine L4 i (i + 1) ?_ ?_ (J8 ⟨rfl, rfl, rfl, rfl, trivial⟩)
    ·exact ⟨by omega, i4 hinv.2 hx (by rw [hy]; congr 1; first | (simp_all; done) | (cases x; cases y; simp_all))⟩
    ·omega
  ·intro h14
   have k14 := of_decide_eq_false h14; try simp only [A6] at k14
   have hge : a.length ≤ i := by omega
   have hab : a = b := n8 heq hinv.2 hge
   refine H3 ?_
   refine A3 (A2 ?_)
   refine A1 rfl rfl rfl (C3 rfl F4) ?_
   refine A4 ?_
   refine C8 ?_
   exact H9 rfl (C5 rfl (by exact congrArg AV.bool (by simp [hab])))
end Go.Proofs.YtnlhbdkcgaeimaaGreat

set_option linter.unusedVariables false
set_option linter.unusedSimpArgs false
set_option maxRecDepth 100000
set_option maxHeartbeats 1000000
namespace Go.Proofs.YtnlhbdkcgaeimaaGreat
open Go Go.AV Go.M
attribute [local irreducible] OpW OpA OpS AWP FSpec ESpec GSpec OpE RetOk RetOkG RvDen Le Ev GuardIs SrcIs Int.tmod IntKind.wrap bandI
end Go.Proofs.YtnlhbdkcgaeimaaGreat

set_option linter.unusedVariables false
set_option linter.unusedSimpArgs false
set_option maxRecDepth 100000
set_option maxHeartbeats 2000000
namespace Go.M
open Go.AV
theorem told_row {l : List TTold} (h : 0 < l.length) : ∃ t, l[0]? = some t ∧ (l.map TTold.cs)[(0 : Int).toNat]? = some t.cs := by
  obtain ⟨t, ht⟩ := get_some h
  exact ⟨t, ht, by show (l.map TTold.cs)[0]? = _; rw [List.getElem?_map, ht]; rfl⟩
end Go.M
namespace Go.Proofs.YtnlhbdkcgaeimaaGreat
open Go Go.AV Go.M
attribute [local irreducible] OpW OpA OpS AWP FSpec ESpec GSpec OpE RetOk RetOkG RvDen Le Ev GuardIs SrcIs SrcE Int.tmod Int.tdiv IntKind.wrap bandI
theorem AF4 (b : Nat) (code : List Int) (hcode : ByteL code) (c : TCur) (hp : c.p ≤ 800000) : GSpec Tryz.prog 99 [AV.ptr b 0] [.box b 127 (curC code c)] (fun x : TCur × TState => x.1.p ≤ c.p + 1310 ∧ x.2.size ≤ 33045 ∧ SB 100001 x.2) (fun x => [.box b 127 (curC code x.1)]) (fun x => AV.agg x.2.cs) := by
 refine H5 Tryz.func99 rfl Tryz.ntmps99 rfl ?_
 refine A3 (A2 ?_)
 refine G0 rfl rfl rfl rfl Tryz.zeroValue30 rfl ?_
 intro b2
 refine A4 (A3 (A2 ?_))
 refine A5 rfl rfl rfl rfl rfl ?_
 refine I2 [1] rfl rfl rfl rfl Tryz.call196 rfl (Ap1 _ _ hcode _ (by omega)) (A9 (A0 rfl) D1) rfl ?_
 intro x5 ok5
 obtain ⟨hp5, hso, ⟨hf5, hl5⟩, hs5⟩ := ok5
 obtain ⟨q1, q2, q3, q4, q5⟩ := R9 hs5
 refine G0 rfl rfl rfl rfl Tryz.zeroValue30 rfl ?_
 intro b3
 refine D5 0 rfl rfl rfl (A0 rfl) (A0 rfl) (E2 _) rfl C1 rfl ?_
 refine A4 (A3 (A3 ?_))
 refine L1 (by first | (simp only [TState.ow, TState.ocs, pick, O9, O6, O7, O3, N5, List.nil_append, P0, P1, List.append_nil, O4, List.take_zero, O8, List.drop_zero]; exact rfl) | exact rfl) ?_
 refine A2 ?_
 refine A5 rfl rfl rfl rfl rfl ?_
 refine I2 [1] rfl rfl rfl rfl Tryz.call100 rfl (T0 _ _ hcode _ _ (by omega) (by omega)) (A9 (A0 rfl) (A9 C4 D1)) rfl ?_
 intro x7 ok7
 refine A4 (D7 (A3 (A2 ?_)))
 refine A1 rfl rfl rfl (M9 rfl (A0 rfl) C4) ?_
 refine B9 rfl rfl rfl rfl rfl ?_
 refine A4 ?_
 refine C7 (A0 rfl) ?_ ?_
 ·intro h8
  have k8 := L3 h8; try simp only [A6] at k8
  refine A2 ?_
  refine A5 rfl rfl rfl rfl rfl ?_
  refine A1 rfl rfl rfl (L9 rfl N8 C0 Tryz.zeroValue3 rfl rfl rfl rfl (E0 C4 (K9 _ _) (E0 C4 (K9 _ _) (E0 C4 (K9 _ _) (E0 C4 (K9 _ _) H6)))) rfl rfl) ?_
  refine I2 [0] rfl rfl rfl rfl Tryz.call129 rfl (r7 _ _ hcode _ ([(0), (1), (100000), (100001)] : List Int) (by decide) (by omega)) (A9 (A0 rfl) (A9 (A0 rfl) D1)) rfl ?_
  intro x12 ok12
  refine A1 rfl rfl rfl (B3 0 rfl B8 rfl C0 (A0 rfl) rfl) ?_
  refine I4 1 rfl rfl rfl (A0 rfl) (A0 rfl) (K9 _ _) rfl C0 rfl ?_
  refine A4 (A3 ?_)
  refine L1 (by first | (simp only [TState.ow, TState.ocs, pick, O9, O6, O7, O3, N5, List.nil_append, P0, P1, List.append_nil, O4, List.take_zero, O8, List.drop_zero]; exact rfl) | exact rfl) ?_
  refine A2 ?_
  refine A1 rfl rfl rfl (F2 1 rfl (A0 rfl) rfl D6 C1 rfl) ?_
  refine AE3 (c7 [2, 2] 42 rfl rfl (X7 (G8 L6 (G8 L6 (G8 (M6 (G6 (i := 0) rfl) J0) (G8 (M6 (G6 (i := 1) rfl) J0) T8))))) (T7 0 rfl rfl O5)) ?_
  refine D5 2 rfl rfl rfl (A0 rfl) (A0 rfl) (E2 _) rfl C1 rfl ?_
  refine A4 ?_
  refine C8 ?_
  (refine K1 [0] ((x12.1, ⟨x12.2, x5.2.1.Cells, x5.2.1.Held, x5.2.1.Told⟩)) ?_ rfl (by first | (dsimp only; rfl) | rfl) (N1 rfl (J6 (ys := _) 2 rfl rfl D6 C1 (by first | rfl | (dsimp only [TState.cs]; rw [List.map_append]; rfl)))); (have hsz9 : sizeL TCell.size x5.2.1.Cells + sizeL THeld.size x5.2.1.Held + x5.2.1.Told.length ≤ 33044 := hs5; first | exact ⟨by dsimp only; omega, by show sizeL TCell.size _ + sizeL THeld.size _ + _ ≤ 33045; dsimp only; omega, ⟨⟨by dsimp only; omega, by dsimp only; omega⟩, hl5⟩⟩ | exact ⟨by dsimp only; omega, by show sizeL TCell.size _ + sizeL THeld.size _ + _ ≤ 33045; dsimp only; rw [J1]; simp only [B2, B7]; omega, ⟨⟨by dsimp only; omega, by dsimp only; omega⟩, hl5⟩⟩ | exact ⟨by dsimp only; omega, by show sizeL TCell.size _ + sizeL THeld.size _ + _ ≤ 33045; dsimp only; exact Nat.le_trans hsz9 (by decide), ⟨⟨by have h9 := ok12.2; simp at h9; dsimp only; omega, by have h9 := ok12.2; simp at h9; dsimp only; omega⟩, hl5⟩⟩ | exact ⟨by dsimp only; omega, by show sizeL TCell.size _ + sizeL THeld.size _ + _ ≤ 33045; (rw [hh0, N7] at hsz9; dsimp only; rw [N7]; exact Nat.le_trans hsz9 (by decide)), ⟨⟨by dsimp only; omega, by dsimp only; omega⟩, fun k hk => by (rcases List.mem_cons.1 hk with rfl | hk; (exact hl5 h0 (by rw [hh0]; exact List.mem_cons_self)); (exact hl5 k (by rw [hh0]; exact List.mem_cons_of_mem _ hk)))⟩⟩))
 ·intro h8
  have k8 := L2 h8; try simp only [A6] at k8
  refine A3 (A2 ?_)
  refine A1 rfl rfl rfl (M9 rfl (A0 rfl) C4) ?_
  refine B9 rfl rfl rfl rfl rfl ?_
  refine A4 ?_
  refine C7 (A0 rfl) ?_ ?_
  ·intro h14
   have k14 := L3 h14; try simp only [A6] at k14
   refine A3 (A2 ?_)
   refine A1 rfl rfl rfl (B3 2 rfl B8 rfl E9 (A0 rfl) rfl) ?_
   refine A1 rfl rfl rfl (B1 1 rfl (A0 rfl) rfl I3 rfl) ?_
   refine A1 rfl rfl rfl (U9 2 rfl C9 (A0 rfl) rfl) ?_
   refine A1 rfl rfl rfl (P8 rfl (A0 rfl) C4) ?_
   refine A4 ?_
   refine C7 (A0 rfl) ?_ ?_
   ·intro h19
    have k19 := of_decide_eq_true h19; try simp only [A6] at k19
    obtain ⟨h0, hs0, hh0⟩ : ∃ h0 hs0, x5.2.1.Held = h0 :: hs0 := by (cases hm : x5.2.1.Held with | nil => (rw [hm] at h19; simp at h19) | cons y q => exact ⟨y, q, rfl⟩)
    have hA : ([] : List (List AV)).length = (0 : Int).toNat := rfl
    rw [show x5.2.1.Held.map THeld.cs = [] ++ h0.cs :: hs0.map THeld.cs from by rw [hh0]; rfl]
    refine AWP.le (I8 [1, 1] rfl) ?_
    refine T3 _ [(0, false), (1, false), (2, false), (3, false), (4, true)] (by kernel_rfl) (by kernel_rfl) rfl (W9 2) ?_
    refine F9 rfl rfl rfl (fun ext => B3 2 rfl B8 rfl E9 (A0 rfl) rfl) ?_
    refine F9 rfl rfl rfl (fun ext => B1 0 rfl (A0 rfl) rfl I3 rfl) ?_
    refine F9 rfl rfl rfl (fun ext => C6 rfl (A0 rfl)) ?_
    refine F9 rfl rfl rfl (fun ext => L9 rfl N8 C0 Tryz.zeroValue3 rfl rfl rfl rfl (E0 C4 (K9 _ _) (E0 C4 (K9 _ _) (E0 C4 (K9 _ _) H6))) rfl rfl) ?_
    refine U1 rfl rfl rfl (f5 [2] rfl Tryz.call129 rfl (r7 _ _ hcode _ ([(0), (1), (100)] : List Int) (by decide) (by omega)) (A9 (A0 rfl) (A9 (A0 rfl) D1)) rfl) (fun a _ => (by first | exact F8 rfl | exact F8 (List.append_assoc _ _ _) | exact J5)) ?_
    intro x24 ok24
    refine i3 ?_
    refine A1 rfl rfl rfl (U4 1 rfl C9 D3 (A0 rfl) rfl C4 (by omega) (by simp)) ?_
    refine A1 rfl rfl rfl (i0 1 rfl F1 rfl C0 (A0 rfl) rfl rfl (c0 hA)) ?_
    refine r5 1 rfl rfl rfl (A0 rfl) (A0 rfl) (K9 _ _) rfl C0 hA rfl ?_
    refine A4 (A3 ?_)
    refine L1 (by first | (simp only [TState.ow, TState.ocs, pick, O9, O6, O7, O3, N5, List.nil_append, P0, P1, List.append_nil, O4, List.take_zero, O8, List.drop_zero]; exact rfl) | exact rfl) ?_
    refine A2 ?_
    refine A1 rfl rfl rfl (F2 0 rfl (A0 rfl) rfl D6 C1 rfl) ?_
    refine AE3 (c7 [1, 1] 42 rfl rfl (X7 (G8 L6 (G8 L6 (G8 (M6 (G6 (i := 0) rfl) J0) (G8 (M6 (G6 (i := 1) rfl) J0) T8))))) (T7 2 rfl rfl O5)) ?_
    refine D5 1 rfl rfl rfl (A0 rfl) (A0 rfl) (E2 _) rfl C1 rfl ?_
    refine A4 ?_
    refine C8 ?_
    (refine K1 [2] ((x24.1, ⟨x5.2.1.Floor, x5.2.1.Cells, ⟨h0.Txn, x24.2, h0.Lead, h0.Reads, h0.Writes⟩ :: hs0, x5.2.1.Told⟩)) ?_ rfl (by first | (dsimp only; rfl) | rfl) (N1 rfl (J6 (ys := _) 1 rfl rfl D6 C1 (by first | rfl | (dsimp only [TState.cs]; rw [List.map_append]; rfl)))); (have hsz9 : sizeL TCell.size x5.2.1.Cells + sizeL THeld.size x5.2.1.Held + x5.2.1.Told.length ≤ 33044 := hs5; first | exact ⟨by dsimp only; omega, by show sizeL TCell.size _ + sizeL THeld.size _ + _ ≤ 33045; dsimp only; omega, ⟨⟨by dsimp only; omega, by dsimp only; omega⟩, hl5⟩⟩ | exact ⟨by dsimp only; omega, by show sizeL TCell.size _ + sizeL THeld.size _ + _ ≤ 33045; dsimp only; rw [J1]; simp only [B2, B7]; omega, ⟨⟨by dsimp only; omega, by dsimp only; omega⟩, hl5⟩⟩ | exact ⟨by dsimp only; omega, by show sizeL TCell.size _ + sizeL THeld.size _ + _ ≤ 33045; dsimp only; exact Nat.le_trans hsz9 (by decide), ⟨⟨by have h9 := ok12.2; simp at h9; dsimp only; omega, by have h9 := ok12.2; simp at h9; dsimp only; omega⟩, hl5⟩⟩ | exact ⟨by dsimp only; omega, by show sizeL TCell.size _ + sizeL THeld.size _ + _ ≤ 33045; (rw [hh0, N7] at hsz9; dsimp only; rw [N7]; exact Nat.le_trans hsz9 (by decide)), ⟨⟨by dsimp only; omega, by dsimp only; omega⟩, fun k hk => by (rcases List.mem_cons.1 hk with rfl | hk; (exact hl5 h0 (by rw [hh0]; exact List.mem_cons_self)); (exact hl5 k (by rw [hh0]; exact List.mem_cons_of_mem _ hk)))⟩⟩))
   ·intro h19
    have k19 := of_decide_eq_false h19; try simp only [A6] at k19
    refine D2 (A3 ?_)
    refine L1 (by first | (simp only [TState.ow, TState.ocs, pick, O9, O6, O7, O3, N5, List.nil_append, P0, P1, List.append_nil, O4, List.take_zero, O8, List.drop_zero]; exact rfl) | exact rfl) ?_
    refine A2 ?_
    refine A1 rfl rfl rfl (F2 1 rfl (A0 rfl) rfl D6 C1 rfl) ?_
    refine AE3 (c7 [2, 2] 42 rfl rfl (X7 (G8 L6 (G8 L6 (G8 (M6 (G6 (i := 0) rfl) J0) (G8 (M6 (G6 (i := 1) rfl) J0) T8))))) (T7 0 rfl rfl O5)) ?_
    refine D5 2 rfl rfl rfl (A0 rfl) (A0 rfl) (E2 _) rfl C1 rfl ?_
    refine A4 ?_
    refine C8 ?_
    (refine K1 [0] ((x7.1, x5.2.1)) ?_ rfl (by first | (dsimp only; rfl) | rfl) (N1 rfl (J6 (ys := _) 2 rfl rfl D6 C1 (by first | rfl | (dsimp only [TState.cs]; rw [List.map_append]; rfl)))); (have hsz9 : sizeL TCell.size x5.2.1.Cells + sizeL THeld.size x5.2.1.Held + x5.2.1.Told.length ≤ 33044 := hs5; first | exact ⟨by dsimp only; omega, by show sizeL TCell.size _ + sizeL THeld.size _ + _ ≤ 33045; dsimp only; omega, ⟨⟨by dsimp only; omega, by dsimp only; omega⟩, hl5⟩⟩ | exact ⟨by dsimp only; omega, by show sizeL TCell.size _ + sizeL THeld.size _ + _ ≤ 33045; dsimp only; rw [J1]; simp only [B2, B7]; omega, ⟨⟨by dsimp only; omega, by dsimp only; omega⟩, hl5⟩⟩ | exact ⟨by dsimp only; omega, by show sizeL TCell.size _ + sizeL THeld.size _ + _ ≤ 33045; dsimp only; exact Nat.le_trans hsz9 (by decide), ⟨⟨by have h9 := ok12.2; simp at h9; dsimp only; omega, by have h9 := ok12.2; simp at h9; dsimp only; omega⟩, hl5⟩⟩ | exact ⟨by dsimp only; omega, by show sizeL TCell.size _ + sizeL THeld.size _ + _ ≤ 33045; (rw [hh0, N7] at hsz9; dsimp only; rw [N7]; exact Nat.le_trans hsz9 (by decide)), ⟨⟨by dsimp only; omega, by dsimp only; omega⟩, fun k hk => by (rcases List.mem_cons.1 hk with rfl | hk; (exact hl5 h0 (by rw [hh0]; exact List.mem_cons_self)); (exact hl5 k (by rw [hh0]; exact List.mem_cons_of_mem _ hk)))⟩⟩))
  ·intro h14
   have k14 := L2 h14; try simp only [A6] at k14
   refine A3 (A2 ?_)
   refine A1 rfl rfl rfl (M9 rfl (A0 rfl) C4) ?_
   refine B9 rfl rfl rfl rfl rfl ?_
   refine A4 ?_
   refine C7 (A0 rfl) ?_ ?_
   ·intro h27
    have k27 := L3 h27; try simp only [A6] at k27
    refine A3 (A2 ?_)
    refine A1 rfl rfl rfl (B3 3 rfl B8 rfl J3 (A0 rfl) rfl) ?_
    refine A1 rfl rfl rfl (B1 1 rfl (A0 rfl) rfl O0 rfl) ?_
    refine A1 rfl rfl rfl (U9 3 rfl E3 (A0 rfl) rfl) ?_
    refine A1 rfl rfl rfl (P8 rfl (A0 rfl) C4) ?_
    refine A4 ?_
    refine C7 (A0 rfl) ?_ ?_
    ·intro h32
     have k32 := of_decide_eq_true h32; try simp only [A6] at k32
     obtain ⟨t0, ht0, htrow⟩ := told_row (l := x5.2.1.Told) (by simpa using h32)
     refine P9 7 (by kernel_rfl) (by kernel_rfl) rfl ?_
     refine B5 rfl rfl (B3 3 rfl B8 rfl J3 (A0 rfl) rfl) ?_
     refine B5 rfl rfl (B1 1 rfl (A0 rfl) rfl O0 rfl) ?_
     refine B5 rfl rfl (B3 3 rfl B8 rfl J3 (A0 rfl) rfl) ?_
     refine B5 rfl rfl (B1 1 rfl (A0 rfl) rfl O0 rfl) ?_
     refine B5 rfl rfl (U4 3 rfl E3 H2 (A0 rfl) rfl C4 (by omega) (by have h9 := (List.getElem?_eq_some_iff.1 ht0).1; first | omega | (simp only [A6]; omega))) ?_
     refine B5 rfl rfl (q8 3 rfl (A0 rfl) rfl V2 H2 htrow (by decide)) ?_
     refine B5 rfl rfl (L9 rfl E3 H2 Tryz.zeroValue39 rfl rfl rfl rfl (E0 (A0 rfl) (E2 _) H6) rfl rfl) ?_
     refine O1 ?_
     refine L5 (by' := 24) 3 rfl rfl rfl rfl E3 Tryz.type39 rfl rfl rfl rfl rfl rfl (A0 rfl) (A0 rfl) rfl (by first | omega | (simp only [A6, A7, B2, B7, A8, szR] at *; omega)) ?_
     intro v40_1
     refine A1 rfl rfl rfl (B3 3 rfl B8 rfl J3 (A0 rfl) rfl) ?_
     refine Q8 3 rfl fun one_v40_1 => ?_
     refine I4 1 rfl rfl rfl (A0 rfl) (A0 rfl) (Q9 one_v40_1) rfl J3 rfl ?_
     refine A4 (A3 ?_)
     refine L1 (by first | (simp only [TState.ow, TState.ocs, pick, O9, O6, O7, O3, N5, List.nil_append, P0, P1, List.append_nil, O4, List.take_zero, O8, List.drop_zero]; exact rfl) | exact rfl) ?_
     refine A2 ?_
     refine A1 rfl rfl rfl (F2 1 rfl (A0 rfl) rfl D6 C1 rfl) ?_
     refine AE3 (c7 [2, 2] 42 rfl rfl (X7 (G8 L6 (G8 L6 (G8 (M6 (G6 (i := 0) rfl) J0) (G8 (M6 (G6 (i := 1) rfl) J0) T8))))) (T7 0 rfl rfl O5)) ?_
     refine D5 2 rfl rfl rfl (A0 rfl) (A0 rfl) (E2 _) rfl C1 rfl ?_
     refine A4 ?_
     refine C8 ?_
     (refine K1 [0] ((x7.1, ⟨x5.2.1.Floor, x5.2.1.Cells, x5.2.1.Held, x5.2.1.Told ++ [t0]⟩)) ?_ rfl (by first | (dsimp only; rfl) | rfl) (N1 rfl (J6 (ys := _) 2 rfl rfl D6 C1 (by first | rfl | (dsimp only [TState.cs]; rw [List.map_append]; rfl)))); (have hsz9 : sizeL TCell.size x5.2.1.Cells + sizeL THeld.size x5.2.1.Held + x5.2.1.Told.length ≤ 33044 := hs5; first | exact ⟨by dsimp only; omega, by show sizeL TCell.size _ + sizeL THeld.size _ + _ ≤ 33045; dsimp only; omega, ⟨⟨by dsimp only; omega, by dsimp only; omega⟩, hl5⟩⟩ | exact ⟨by dsimp only; omega, by show sizeL TCell.size _ + sizeL THeld.size _ + _ ≤ 33045; dsimp only; rw [J1]; simp only [B2, B7]; omega, ⟨⟨by dsimp only; omega, by dsimp only; omega⟩, hl5⟩⟩ | exact ⟨by dsimp only; omega, by show sizeL TCell.size _ + sizeL THeld.size _ + _ ≤ 33045; dsimp only; exact Nat.le_trans hsz9 (by decide), ⟨⟨by have h9 := ok12.2; simp at h9; dsimp only; omega, by have h9 := ok12.2; simp at h9; dsimp only; omega⟩, hl5⟩⟩ | exact ⟨by dsimp only; omega, by show sizeL TCell.size _ + sizeL THeld.size _ + _ ≤ 33045; (rw [hh0, N7] at hsz9; dsimp only; rw [N7]; exact Nat.le_trans hsz9 (by decide)), ⟨⟨by dsimp only; omega, by dsimp only; omega⟩, fun k hk => by (rcases List.mem_cons.1 hk with rfl | hk; (exact hl5 h0 (by rw [hh0]; exact List.mem_cons_self)); (exact hl5 k (by rw [hh0]; exact List.mem_cons_of_mem _ hk)))⟩⟩))
    ·intro h32
     have k32 := of_decide_eq_false h32; try simp only [A6] at k32
     refine D2 (A3 ?_)
     refine L1 (by first | (simp only [TState.ow, TState.ocs, pick, O9, O6, O7, O3, N5, List.nil_append, P0, P1, List.append_nil, O4, List.take_zero, O8, List.drop_zero]; exact rfl) | exact rfl) ?_
     refine A2 ?_
     refine A1 rfl rfl rfl (F2 1 rfl (A0 rfl) rfl D6 C1 rfl) ?_
     refine AE3 (c7 [2, 2] 42 rfl rfl (X7 (G8 L6 (G8 L6 (G8 (M6 (G6 (i := 0) rfl) J0) (G8 (M6 (G6 (i := 1) rfl) J0) T8))))) (T7 0 rfl rfl O5)) ?_
     refine D5 2 rfl rfl rfl (A0 rfl) (A0 rfl) (E2 _) rfl C1 rfl ?_
     refine A4 ?_
     refine C8 ?_
     (refine K1 [0] ((x7.1, x5.2.1)) ?_ rfl (by first | (dsimp only; rfl) | rfl) (N1 rfl (J6 (ys := _) 2 rfl rfl D6 C1 (by first | rfl | (dsimp only [TState.cs]; rw [List.map_append]; rfl)))); (have hsz9 : sizeL TCell.size x5.2.1.Cells + sizeL THeld.size x5.2.1.Held + x5.2.1.Told.length ≤ 33044 := hs5; first | exact ⟨by dsimp only; omega, by show sizeL TCell.size _ + sizeL THeld.size _ + _ ≤ 33045; dsimp only; omega, ⟨⟨by dsimp only; omega, by dsimp only; omega⟩, hl5⟩⟩ | exact ⟨by dsimp only; omega, by show sizeL TCell.size _ + sizeL THeld.size _ + _ ≤ 33045; dsimp only; rw [J1]; simp only [B2, B7]; omega, ⟨⟨by dsimp only; omega, by dsimp only; omega⟩, hl5⟩⟩ | exact ⟨by dsimp only; omega, by show sizeL TCell.size _ + sizeL THeld.size _ + _ ≤ 33045; dsimp only; exact Nat.le_trans hsz9 (by decide), ⟨⟨by have h9 := ok12.2; simp at h9; dsimp only; omega, by have h9 := ok12.2; simp at h9; dsimp only; omega⟩, hl5⟩⟩ | exact ⟨by dsimp only; omega, by show sizeL TCell.size _ + sizeL THeld.size _ + _ ≤ 33045; (rw [hh0, N7] at hsz9; dsimp only; rw [N7]; exact Nat.le_trans hsz9 (by decide)), ⟨⟨by dsimp only; omega, by dsimp only; omega⟩, fun k hk => by (rcases List.mem_cons.1 hk with rfl | hk; (exact hl5 h0 (by rw [hh0]; exact List.mem_cons_self)); (exact hl5 k (by rw [hh0]; exact List.mem_cons_of_mem _ hk)))⟩⟩))
   ·intro h27
    have k27 := L2 h27; try simp only [A6] at k27
    refine D2 (A3 ?_)
    refine L1 (by first | (simp only [TState.ow, TState.ocs, pick, O9, O6, O7, O3, N5, List.nil_append, P0, P1, List.append_nil, O4, List.take_zero, O8, List.drop_zero]; exact rfl) | exact rfl) ?_
    refine A2 ?_
    refine A1 rfl rfl rfl (F2 1 rfl (A0 rfl) rfl D6 C1 rfl) ?_
    refine AE3 (c7 [2, 2] 42 rfl rfl (X7 (G8 L6 (G8 L6 (G8 (M6 (G6 (i := 0) rfl) J0) (G8 (M6 (G6 (i := 1) rfl) J0) T8))))) (T7 0 rfl rfl O5)) ?_
    refine D5 2 rfl rfl rfl (A0 rfl) (A0 rfl) (E2 _) rfl C1 rfl ?_
    refine A4 ?_
    refine C8 ?_
    (refine K1 [0] ((x7.1, x5.2.1)) ?_ rfl (by first | (dsimp only; rfl) | rfl) (N1 rfl (J6 (ys := _) 2 rfl rfl D6 C1 (by first | rfl | (dsimp only [TState.cs]; rw [List.map_append]; rfl)))); (have hsz9 : sizeL TCell.size x5.2.1.Cells + sizeL THeld.size x5.2.1.Held + x5.2.1.Told.length ≤ 33044 := hs5; first | exact ⟨by dsimp only; omega, by show sizeL TCell.size _ + sizeL THeld.size _ + _ ≤ 33045; dsimp only; omega, ⟨⟨by dsimp only; omega, by dsimp only; omega⟩, hl5⟩⟩ | exact ⟨by dsimp only; omega, by show sizeL TCell.size _ + sizeL THeld.size _ + _ ≤ 33045; dsimp only; rw [J1]; simp only [B2, B7]; omega, ⟨⟨by dsimp only; omega, by dsimp only; omega⟩, hl5⟩⟩ | exact ⟨by dsimp only; omega, by show sizeL TCell.size _ + sizeL THeld.size _ + _ ≤ 33045; dsimp only; exact Nat.le_trans hsz9 (by decide), ⟨⟨by have h9 := ok12.2; simp at h9; dsimp only; omega, by have h9 := ok12.2; simp at h9; dsimp only; omega⟩, hl5⟩⟩ | exact ⟨by dsimp only; omega, by show sizeL TCell.size _ + sizeL THeld.size _ + _ ≤ 33045; (rw [hh0, N7] at hsz9; dsimp only; rw [N7]; exact Nat.le_trans hsz9 (by decide)), ⟨⟨by dsimp only; omega, by dsimp only; omega⟩, fun k hk => by (rcases List.mem_cons.1 hk with rfl | hk; (exact hl5 h0 (by rw [hh0]; exact List.mem_cons_self)); (exact hl5 k (by rw [hh0]; exact List.mem_cons_of_mem _ hk)))⟩⟩))
end Go.Proofs.YtnlhbdkcgaeimaaGreat

set_option linter.unusedVariables false
set_option linter.unusedSimpArgs false
namespace Go.AV
open Go.ChangeShapes Go.WideShapes Go.ChangeAt Go.RowKit

def heapR (w : World) : RHeap := fun b => w.heap[b]?
theorem heapR_le (w : World) : RLe (heapR w) w := fun _ _ h => h
theorem Ay4 {w : World} {a : Addr} {v : Value} (h : w.cell? a = some v) : rcell (heapR w) a = some v := h

def Opens (P : Program) (t : TypeId) (α : Type) (enc : α → List AV) (ok : α → Prop) : Prop :=
  ∀ (H : Type) (en : TypeId × Value → H) (w : World) (base : Nat) (spare : Nat → Bool) (held : Bool) (fuel : Nat) (cs : List Value) (x : DataW H × List MemPlace),
    DataW.trod en P w base spare held fuel t cs = some x → ∃ a : α, ok a ∧ DenC (heapR w) cs (enc a)
theorem AW8 {R : RHeap} {v : Value} {x : AV} (h : x.den R v) (h1 : v.oneCell' = true) : DenC R [v] [x] :=
  ⟨rfl, fun i u y hu hy => by
    cases i with
    | zero => simp at hu hy; subst hu; subst hy; exact ⟨h, h1⟩
    | succ i => simp at hu⟩
section
variable {P : Program} {t e : TypeId}
theorem BB7 {k : IntKind} (ht : P.underlying t = some (.int k)) : Opens P t Int (fun n => [AV.ik k n]) (fun n => (Lit.int k n).wf = true) := fun H en w base spare held fuel cs x h => by
  obtain ⟨n, rfl, _, hw⟩ := DataW.trod_int ht h
  exact ⟨n, hw, AW8 rfl rfl⟩
theorem Au9 {α : Type} {p : Nat → α → Prop} : ∀ n, (∀ i, i < n → ∃ a, p i a) → ∃ l : List α, l.length = n ∧ ∀ (i : Nat) (a : α), l[i]? = some a → p i a
  | 0, _ => ⟨[], rfl, fun i a h => by simp at h⟩
  | n + 1, h => by
    obtain ⟨l, h1, h2⟩ := Au9 n fun i hi => h i (by omega)
    obtain ⟨a, ha⟩ := h n (by omega)
    refine ⟨l ++ [a], by simp [h1], fun i b hb => ?_⟩
    by_cases hi : i < l.length
    · rw [List.getElem?_append_left hi] at hb; exact h2 i b hb
    · rw [List.getElem?_append_right (by omega)] at hb
      have hin : i = n := by
        have := (List.getElem?_eq_some_iff.1 hb).1
        simp at this; omega
      subst hin
      rw [h1] at hb; simp at hb; subst hb; exact ha
theorem As6 {α : Type} {enc : α → List AV} {ok : α → Prop} {sz : Nat} (ht : P.underlying t = some (.slice e)) (hc : P.cellsOf e = sz) (h : Opens P e α enc ok) (hl : ∀ a, (enc a).length = sz) :
    Opens P t (List α) (fun l => [AV.list sz (l.map enc)]) (fun l => ∀ a ∈ l, ok a) := fun H en w base spare held fuel cs x hx => by
  rcases DataW.trod_slice ht hx with ⟨rfl, _⟩ | ⟨a, len, cap, elems, rest, n, _, rfl, _, _, hlc, hcm, hel, hi, _, _⟩
  · exact ⟨[], by simp, AW8 ⟨none, 0, rfl, Nat.le_refl _, Nat.zero_le _, by simp, fun h => absurd rfl h⟩ rfl⟩
  · obtain ⟨l, h1, h2⟩ := Au9 (p := fun i b => ok b ∧ ∃ cs', w.cells? base (a.add (i * sz)) sz = some cs' ∧ DenC (heapR w) cs' (enc b)) len fun i hil => by
      have := hi i hil
      rw [hc, List.getElem?_eq_getElem (by omega)] at this
      obtain ⟨cs', hcs, htr⟩ := Option.bind_eq_some_iff.1 this
      obtain ⟨b, hb, hd⟩ := h H en w base spare held n cs' _ htr
      exact ⟨b, hb, cs', hcs, hd⟩
    refine ⟨l, fun b hb => ?_, AW8 ⟨some a, cap, by rw [A6, h1], by rw [A6, h1]; exact hlc, hcm, fun ec he => ?_, fun _ => ⟨a, rfl, fun j y hy => ?_⟩⟩ rfl⟩
    · obtain ⟨i, hib⟩ := List.getElem?_of_mem hb
      exact (h2 i b hib).1
    · obtain ⟨b, _, rfl⟩ := List.mem_map.1 he
      exact hl b
    · have hun : ∀ ec ∈ l.map enc, ec.length = sz := fun ec he => by
        obtain ⟨b, _, rfl⟩ := List.mem_map.1 he
        exact hl b
      have hjl : j < l.length * sz := by
        have := (List.getElem?_eq_some_iff.1 hy).1
        rwa [U6 hun, A6] at this
      have hsz : 0 < sz := by
        rcases Nat.eq_zero_or_pos sz with h0 | h0
        · subst h0; omega
        · exact h0
      have hij : j / sz < l.length := Nat.div_lt_of_lt_mul (by rw [Nat.mul_comm]; exact hjl)
      have hkm : j % sz < sz := Nat.mod_lt _ hsz
      have hjj : j / sz * sz + j % sz = j := by rw [Nat.mul_comm]; exact Nat.div_add_mod j sz
      have hb : l[j / sz]? = some l[j / sz] := List.getElem?_eq_getElem hij
      obtain ⟨_, cs', hcs, hd⟩ := h2 _ _ hb
      obtain ⟨_, hcl, hat⟩ := World.cells?_some hcs
      have hk : (enc l[j / sz])[j % sz]? = some ((enc l[j / sz])[j % sz]'(by rw [hl]; exact hkm)) := List.getElem?_eq_getElem _
      have hyk := Z3 hun (i := j / sz) (e := enc l[j / sz]) (by rw [List.getElem?_map, hb]; rfl) hk
      rw [hjj, hy] at hyk
      injection hyk with hyk
      have hv : cs'[j % sz]? = some (cs'[j % sz]'(by rw [hcl]; exact hkm)) := List.getElem?_eq_getElem _
      have hcell := hat (j % sz) hkm
      rw [hv, AG8, hjj] at hcell
      refine ⟨_, Ay4 hcell, ?_⟩
      have := hd.2 _ _ _ hv hk
      rw [hyk]; exact this
theorem Av0 {H : Type} {en : TypeId × Value → H} {W : World} {base : Nat} {spare : Nat → Bool} {held : Bool} {α : Type} {enc : α → AV} {ok : α → Prop} {v : Value} {d : DataW H} {p : List MemPlace}
    (h : Opens P t α (fun a => [enc a]) ok) (h1 : v.cells = #[v]) (hd : DataW.Trod en P W base spare held t v d p) : ∃ a, ok a ∧ (enc a).den (heapR W) v := by
  obtain ⟨fuel, hf⟩ := hd
  rw [h1] at hf
  obtain ⟨a, h2, h3⟩ := h H en W base spare held fuel _ _ hf
  exact ⟨a, h2, (h3.2 0 v _ rfl rfl).1⟩
theorem BB8 {f : FuncId} {xs : List AV} {b : Bool} {W : World} {vs : List Value} (h : FSpec P f xs (AV.bool b)) (hd : DenV (heapR W) vs xs) :
    Calls P f vs.toArray W fun e w' => e = .returned (.bool b) ∧ Below W.heap.size W w' :=
  (h (heapR W) W vs (heapR_le W) hd).mono fun e w' ⟨v, R', h1, h2, _, _, h5⟩ => ⟨by rw [h1]; exact congrArg Ending.returned h2, h5⟩
end
end Go.AV

set_option linter.unusedVariables false
set_option linter.unusedSimpArgs false
namespace Go.AV
section
variable {P : Program} {G : Nat → Prop} {n : Nat} {own : List Own} {o : Oper} {E : EnvF}
end
end Go.AV

set_option linter.unusedVariables false
set_option linter.unusedSimpArgs false
namespace Go.AV
open Go.RowKit (Below)
section
variable {P : Program} {G : Nat → Prop} {n : Nat} {own : List Own} {o : Oper} {E : EnvF}
end
end Go.AV

set_option linter.unusedVariables false
set_option linter.unusedSimpArgs false
set_option maxRecDepth 100000
set_option maxHeartbeats 2000000
namespace Go.Proofs.YtnlhbdkcgaeimaaGreat
open Go Go.AV Go.M
attribute [local irreducible] OpW OpA OpS AWP FSpec ESpec GSpec OpE RetOk RetOkG RvDen Le Ev GuardIs SrcIs SrcE Int.tmod Int.tdiv IntKind.wrap bandI
theorem AW9 (code : List Int) (hcode : ByteL code) : GSpec Tryz.prog 9 [bytesI code] [] (fun x : List TRec × Value => x.1.length ≤ 12 ∧ ∀ r ∈ x.1, r.size ≤ 1002) (fun x => [.arr x.2 49 7 (x.1.map TRec.cs)]) (fun x => AV.is x.2) := by
 refine H5 Tryz.func9 rfl Tryz.ntmps9 rfl ?_
 refine A3 (A2 ?_)
 refine A1 rfl rfl rfl (C3 rfl K5) ?_
 refine A4 (A3 (A2 ?_))
 refine A5 rfl rfl rfl rfl rfl ?_
 refine A1 rfl rfl rfl (N0 (places := #[(0, 1), (1, 1), (2, 1)]) rfl M5 Tryz.zeroValue127 (fun w => by kernel_rfl) rfl (E0 (A0 rfl) (S2 _ _) H6) rfl) ?_
 refine M3 rfl rfl rfl rfl (A0 rfl) ?_
 intro b7
 refine B9 rfl rfl rfl rfl rfl ?_
 refine A4 (A3 (A2 ?_))
 refine A5 rfl rfl rfl rfl rfl ?_
 refine I2 [0] rfl rfl rfl rfl Tryz.call78 rfl (AU4 _ _ hcode ⟨0, 0⟩ (by decide)) (A9 (A0 rfl) D1) rfl ?_
 intro x9 ok9
 have hp9 : x9.1.p ≤ 1300 := by (have h9 := ok9.1; dsimp only at h9; omega)
 refine B9 rfl rfl rfl rfl rfl ?_
 refine A4 (A3 (A3 (A2 ?_)))
 refine A5 rfl rfl rfl rfl rfl ?_
 refine I2 [0] rfl rfl rfl rfl Tryz.call79 rfl (AB9 _ _ hcode _ _ (by omega) (by omega)) (A9 (A0 rfl) (A9 C4 D1)) rfl ?_
 intro x11 ok11
 refine A4 ?_
 refine C7 (A0 rfl) ?_ ?_
 ·intro h11
  refine A2 ?_
  refine A5 rfl rfl rfl rfl rfl ?_
  refine A5 rfl rfl rfl rfl rfl ?_
  refine I2 [0] rfl rfl rfl rfl Tryz.call80 rfl (Ad1 _ _ hcode _ (by omega)) (A9 (A0 rfl) D1) rfl ?_
  intro x14 ok14
  refine A1 rfl rfl rfl (L9 rfl I9 F7 Tryz.zeroValue49 rfl rfl rfl rfl (E0 (A0 rfl) (E2 _) H6) rfl rfl) ?_
  refine L5 (by' := 88) 1 rfl rfl rfl rfl I9 Tryz.type49 rfl rfl rfl rfl rfl rfl (A0 rfl) (A0 rfl) rfl (by first | omega | (simp only [A6, A7, B2, B7, A8, szR] at *; omega)) ?_
  intro v16_1
  refine B9 rfl rfl rfl rfl rfl ?_
  refine A4 (A3 (A2 ?_))
  refine A5 rfl rfl rfl rfl rfl ?_
  refine B9 rfl rfl rfl rfl rfl ?_
  refine A4 ?_
  refine C8 ?_
  (refine K1 [1] ((x9.2.1 ++ [x14.2], v16_1)) ?_ rfl (by first | rfl | (dsimp only; rw [List.map_append]; rfl)) (N1 rfl (C5 rfl (by rfl))); (have h8 := ok9.2.2; first | exact ⟨by dsimp only; omega, fun r hr => Nat.le_trans (h8 r hr).1 (by decide)⟩ | exact ⟨by dsimp only; rw [J1]; simp only [B2, B7]; omega, fun r hr => by (rcases List.mem_append.1 hr with hr | hr; (exact Nat.le_trans (h8 r hr).1 (by decide)); (rw [List.mem_singleton.1 hr]; exact ok14.2.1))⟩))
 ·intro h11
  refine D2 (A3 (A2 ?_))
  refine A5 rfl rfl rfl rfl rfl ?_
  refine B9 rfl rfl rfl rfl rfl ?_
  refine A4 ?_
  refine C8 ?_
  (refine K1 [1] ((x9.2.1, x9.2.2)) ?_ rfl (by first | rfl | (dsimp only; rw [List.map_append]; rfl)) (N1 rfl (C5 rfl (by rfl))); (have h8 := ok9.2.2; first | exact ⟨by dsimp only; omega, fun r hr => Nat.le_trans (h8 r hr).1 (by decide)⟩ | exact ⟨by dsimp only; rw [J1]; simp only [B2, B7]; omega, fun r hr => by (rcases List.mem_append.1 hr with hr | hr; (exact Nat.le_trans (h8 r hr).1 (by decide)); (rw [List.mem_singleton.1 hr]; exact ok14.2.1))⟩))
theorem Aa5 (code : List Int) (hcode : ByteL code) : GSpec Tryz.prog 9 [bytesI code] [] (fun x : List TRec => x.length ≤ 12 ∧ ∀ r ∈ x, r.size ≤ 1002) (fun x => []) (fun x => AV.list 7 (x.map TRec.cs)) :=
  AG3 (fun x => x.1) (fun x => [.arr x.2 49 7 (x.1.map TRec.cs)]) (fun x => []) (AW9 code hcode) (fun _ h => h) (fun x _ => M6 (List.mem_singleton.2 rfl) J0) (fun x _ => List.Perm.refl _) (fun _ _ => O5) (fun x _ => Am3)
theorem AS3 (code : List Int) (hcode : ByteL code) : GSpec Tryz.prog 114 [bytesI code] [] (fun x : TState => x.size ≤ 33045) (fun x => []) (fun x => AV.agg x.cs) := by
 refine H5 Tryz.func114 rfl Tryz.ntmps114 rfl ?_
 refine A3 (A2 ?_)
 refine G0 rfl rfl rfl rfl Tryz.zeroValue30 rfl ?_
 intro b2
 refine A4 (A3 (A2 ?_))
 refine A5 rfl rfl rfl rfl rfl ?_
 refine A1 rfl rfl rfl (N0 (places := #[(0, 1), (1, 1), (2, 1)]) rfl M5 Tryz.zeroValue127 (fun w => by kernel_rfl) rfl (E0 (A0 rfl) (S2 _ _) H6) rfl) ?_
 refine M3 rfl rfl rfl rfl (A0 rfl) ?_
 intro b6
 refine B9 rfl rfl rfl rfl rfl ?_
 refine A4 (A3 (A2 ?_))
 refine A5 rfl rfl rfl rfl rfl ?_
 refine I2 [0] rfl rfl rfl rfl Tryz.call99 rfl (AF4 _ _ hcode ⟨0, 0⟩ (by decide)) (A9 (A0 rfl) D1) rfl ?_
 intro x8 ok8
 refine D5 1 rfl rfl rfl (A0 rfl) (A0 rfl) (E2 _) rfl C1 rfl ?_
 refine A4 ?_
 refine C8 ?_
 (refine K1 [] (x8.2) ?_ rfl (by first | (dsimp only; rfl) | rfl) (N1 rfl (J6 (ys := _) 1 rfl rfl D6 C1 rfl)); exact ok8.2.1)
theorem AA9 (code : List Int) (hcode : ByteL code) : GSpec Tryz.prog 31 [bytesI code] [] (fun x : TState => x.size ≤ 33045) (fun x => []) (fun x => AV.agg x.cs) := by
 refine H5 Tryz.func31 rfl Tryz.ntmps31 rfl ?_
 refine A3 (A2 ?_)
 refine G0 rfl rfl rfl rfl Tryz.zeroValue30 rfl ?_
 intro b2
 refine A4 (A3 (A2 ?_))
 refine A5 rfl rfl rfl rfl rfl ?_
 refine I2 [] rfl rfl rfl rfl Tryz.call114 rfl (AS3 code hcode) (A9 (A0 rfl) D1) rfl ?_
 intro x4 ok4
 refine D5 0 rfl rfl rfl (A0 rfl) (A0 rfl) (E2 _) rfl C1 rfl ?_
 refine A4 ?_
 refine C8 ?_
 (refine K1 [] (x4) ?_ rfl (by first | (dsimp only; rfl) | rfl) (N1 rfl (J6 (ys := _) 0 rfl rfl D6 C1 rfl)); exact ok4)
theorem AB0 (code : List Int) (hcode : ByteL code) : GSpec Tryz.prog 33 [bytesI code] [] (fun x : TState × Str × Int => x.1.size ≤ 33045 ∧ x.2.1.length ≤ 64) (fun x => []) (fun x => AV.tup [AV.agg x.1.cs, AV.str x.2.1, AV.int x.2.2]) := by
 refine H5 Tryz.func33 rfl Tryz.ntmps33 rfl ?_
 refine A3 (A2 ?_)
 refine G0 rfl rfl rfl rfl Tryz.zeroValue30 rfl ?_
 intro b2
 refine A1 rfl rfl rfl (C3 rfl (S1 (l := []) rfl)) ?_
 refine A1 rfl rfl rfl (C3 rfl C4) ?_
 refine A4 (A3 (A2 ?_))
 refine A5 rfl rfl rfl rfl rfl ?_
 refine A1 rfl rfl rfl (N0 (places := #[(0, 1), (1, 1), (2, 1)]) rfl M5 Tryz.zeroValue127 (fun w => by kernel_rfl) rfl (E0 (A0 rfl) (S2 _ _) H6) rfl) ?_
 refine M3 rfl rfl rfl rfl (A0 rfl) ?_
 intro b8
 refine B9 rfl rfl rfl rfl rfl ?_
 refine A4 (A3 (A2 ?_))
 refine A5 rfl rfl rfl rfl rfl ?_
 refine I2 [0] rfl rfl rfl rfl Tryz.call99 rfl (AF4 _ _ hcode ⟨0, 0⟩ (by decide)) (A9 (A0 rfl) D1) rfl ?_
 intro x10 ok10
 have hp10 : x10.1.p ≤ 1310 := by (have h9 := ok10.1; dsimp only at h9; omega)
 refine A5 rfl rfl rfl rfl rfl ?_
 refine I2 [0] rfl rfl rfl rfl Tryz.call116 rfl (AZ3 _ _ hcode _ (by omega)) (A9 (A0 rfl) D1) rfl ?_
 intro x12 ok12
 refine A5 rfl rfl rfl rfl rfl ?_
 refine I2 [0] rfl rfl rfl rfl Tryz.call100 rfl (T0 _ _ hcode _ _ (by omega) (by omega)) (A9 (A0 rfl) (A9 C4 D1)) rfl ?_
 intro x14 ok14
 refine A5 rfl rfl rfl rfl rfl ?_
 refine I2 [0] rfl rfl rfl rfl Tryz.call100 rfl (T0 _ _ hcode _ _ (by omega) (by omega)) (A9 (A0 rfl) (A9 C4 D1)) rfl ?_
 intro x16 ok16
 have h16q : 0 ≤ Int.tdiv x16.2 19 ∧ Int.tdiv x16.2 19 ≤ 2 := by (rw [Int.tdiv_eq_ediv_of_nonneg (by omega)]; omega)
 have h16w : IntKind.i64.wrap (Int.tdiv x16.2 19) = Int.tdiv x16.2 19 := AB8 (by omega)
 refine A1 rfl rfl rfl (w_quo rfl (A0 rfl) C4 (by first | omega | (simp only [A6, A7, B2, B7, A8, szR] at *; omega))) ?_
 refine A1 rfl rfl rfl (Q0 rfl (A0 rfl) (A0 rfl) (by rw [h16w]; omega)) ?_
 refine D5 1 rfl rfl rfl (A0 rfl) (A0 rfl) (E2 _) rfl C1 rfl ?_
 refine B9 rfl rfl rfl rfl rfl ?_
 refine B9 rfl rfl rfl rfl rfl ?_
 refine A4 ?_
 refine C8 ?_
 (refine K1 [] ((x10.2, x12.2, _)) ?_ rfl (by first | (dsimp only; rfl) | rfl) (T2 rfl (by decide) (E6 (J6 (ys := _) 1 rfl rfl D6 C1 rfl) (E6 (C5 rfl (by rfl)) (E6 (C5 rfl (by rfl)) K8)))); exact ⟨ok10.2.1, ok12.2⟩)
end Go.Proofs.YtnlhbdkcgaeimaaGreat

set_option linter.unusedVariables false
set_option linter.unusedSimpArgs false
set_option maxRecDepth 100000
set_option maxHeartbeats 2000000
namespace Go.Proofs.YtnlhbdkcgaeimaaGreat
open Go Go.AV Go.M
attribute [local irreducible] OpW OpA OpS AWP FSpec ESpec GSpec OpE RetOk RetOkG RvDen Le Ev GuardIs SrcIs SrcE Int.tmod Int.tdiv IntKind.wrap bandI
theorem Ap5 (code : List Int) (hcode : ByteL code) : GSpec Tryz.prog 14 [bytesI code] [] (fun x : Int => 0 ≤ x ∧ x < 1000003) (fun x => []) (fun x => AV.int x) := by
 refine H5 Tryz.func14 rfl Tryz.ntmps14 rfl ?_
 refine T1 (t := 0) rfl fun hl => ?_
 try simp only [A6] at hl
 refine A3 (A2 ?_)
 refine A1 rfl rfl rfl (C3 rfl C4) ?_
 refine A4 (A3 (A2 ?_))
 refine A1 rfl rfl rfl (C3 rfl C4) ?_
 refine A4 (A3 (A3 (A2 ?_)))
 refine A5 rfl rfl rfl rfl rfl ?_
 refine A1 rfl rfl rfl (G9 rfl S6 (A0 rfl)) ?_
 refine A1 rfl rfl rfl (C6 rfl C4) ?_
 refine A4 (D7 ?_)
 refine R8 [(2, _), (6, _), (7, _)] _ (fun (i : Nat) (n : Int) => i ≤ code.length ∧ 0 ≤ n ∧ n < 1000003) (fun (i : Nat) (n : Int) => []) (fun (i : Nat) (n : Int) => [(3, AV.int n), (8, AV.int i)]) (fun (i : Nat) (n : Int) => code.length - i) (0) (0) ?_ (J8 ⟨rfl, rfl, rfl, rfl, rfl, trivial⟩) ?_
 ·exact ⟨Nat.zero_le _, by decide, by decide⟩
 intro i n hinv
 refine A3 (A2 ?_)
 refine A1 rfl rfl rfl (K6 rfl (A0 rfl) (A0 rfl)) ?_
 refine A4 (A3 ?_)
 refine C7 (A0 rfl) ?_ ?_
 ·intro h9
  have k9 := of_decide_eq_true h9; try simp only [A6] at k9
  have hlt : i < code.length := by omega
  obtain ⟨x, hx⟩ := get_some hlt
  have hxb := hcode x (G6 hx)
  have hwx : IntKind.i64.wrap x = x := AB8 (hcode x (G6 hx))
  refine D2 (A3 (D7 (A3 (A2 ?_))))
  refine A1 rfl rfl rfl (I7 rfl S6 Tryz.sizeOf5 (A0 rfl) (A0 rfl) hx (by first | omega | (simp only [A6, A7, B2, B7, A8, szR] at *; omega))) ?_
  refine A1 rfl rfl rfl (N6 rfl (A0 rfl) Tryz.isAgg5 rfl) ?_
  refine B9 rfl rfl rfl rfl rfl ?_
  refine A4 (A2 ?_)
  refine A5 rfl rfl rfl rfl rfl ?_
  refine A1 rfl rfl rfl (w_muli rfl C4 (A0 rfl) (by first | omega | (simp only [A6, A7, B2, B7, A8, szR] at *; omega))) ?_
  refine A5 rfl rfl rfl rfl rfl ?_
  refine A1 rfl rfl rfl (e7 rfl (by kernel_rfl) Q6 (A0 rfl)) ?_
  refine A1 rfl rfl rfl (G7 rfl (A0 rfl) (A0 rfl) (by rw [AB8 hxb]; omega)) ?_
  refine A1 rfl rfl rfl (Aj0 rfl (A0 rfl) C4 (by first | omega | (simp only [A6, A7, B2, B7, A8, szR] at *; omega))) ?_
  refine B9 rfl rfl rfl rfl rfl ?_
  refine A4 (A2 ?_)
  refine A1 rfl rfl rfl (G7 rfl (A0 rfl) C4 (by first | omega | (simp only [A6, A7, B2, B7, A8, szR] at *; omega))) ?_
  refine A5 rfl rfl rfl rfl rfl ?_
  refine A4 ?_
  refine Q1 i n (i + 1) (Int.tmod (31 * n + IntKind.i64.wrap x) 1000003) ?_ ?_ (J8 ⟨rfl, rfl, rfl, rfl, rfl, trivial⟩)
  ·(rw [hwx]; exact ⟨by omega, Int.tmod_nonneg _ (by omega), Int.tmod_lt_of_pos _ (by decide)⟩)
  ·omega
 ·intro h9
  have k9 := of_decide_eq_false h9; try simp only [A6] at k9
  refine H3 ?_
  refine A3 (A2 ?_)
  refine A5 rfl rfl rfl rfl rfl ?_
  refine B9 rfl rfl rfl rfl rfl ?_
  refine A4 ?_
  refine C8 ?_
  (refine K1 [] (n) ?_ rfl (by first | (dsimp only; rfl) | rfl) (N1 rfl (C5 rfl (by rfl))); exact hinv.2)
end Go.Proofs.YtnlhbdkcgaeimaaGreat

set_option linter.unusedVariables false
set_option linter.unusedSimpArgs false
set_option maxRecDepth 100000
set_option maxHeartbeats 2000000
namespace Go.Proofs.YtnlhbdkcgaeimaaGreat
open Go Go.AV Go.M
attribute [local irreducible] OpW OpA OpS AWP FSpec ESpec GSpec OpE RetOk RetOkG RvDen Le Ev GuardIs SrcIs SrcE Int.tmod Int.tdiv IntKind.wrap bandI
theorem AL9 (a b : List Int) : FSpec Tryz.prog 36 [ints a, ints b] (AV.bool (decide (a = b))) := by
 refine E7 Tryz.func36 rfl Tryz.ntmps36 rfl ?_
 refine T1 (t := 0) rfl fun hl => ?_
 try simp only [A6] at hl
 refine A3 (A2 ?_)
 refine A1 rfl rfl rfl (C3 rfl F4) ?_
 refine A4 (A3 (A3 (A2 ?_)))
 refine A5 rfl rfl rfl rfl rfl ?_
 refine A1 rfl rfl rfl (G9 rfl N8 (A0 rfl)) ?_
 refine A5 rfl rfl rfl rfl rfl ?_
 refine A1 rfl rfl rfl (G9 rfl N8 (A0 rfl)) ?_
 refine A1 rfl rfl rfl (g8 rfl (A0 rfl) (A0 rfl)) ?_
 refine A4 ?_
 refine C7 (A0 rfl) ?_ ?_
 ·intro h10
  have k10 := i9 h10; try simp only [A6] at k10
  have hab : a ≠ b := by intro hc; subst hc; exact k10 rfl
  refine A3 (A2 ?_)
  refine A1 rfl rfl rfl (C3 rfl F4) ?_
  refine A4 ?_
  refine C8 ?_
  exact H9 rfl (C5 rfl (by exact congrArg AV.bool (by simp [hab])))
 ·intro h10
  have k10 := V5 h10; try simp only [A6] at k10
  have heq : a.length = b.length := by omega
  refine D2 (A3 (A3 (A2 ?_)))
  refine A5 rfl rfl rfl rfl rfl ?_
  refine A1 rfl rfl rfl (G9 rfl N8 (A0 rfl)) ?_
  refine A1 rfl rfl rfl (C6 rfl C4) ?_
  refine A4 (D7 ?_)
  refine J9 [(0, _), (1, _), (12, _)] _ (fun (i : Nat) => i ≤ a.length ∧ a.take i = b.take i) (fun (i : Nat) => []) (fun (i : Nat) => [(13, AV.int i)]) (fun (i : Nat) => a.length - i) (0) ?_ (J8 ⟨rfl, rfl, rfl, rfl, trivial⟩) ?_
  ·exact ⟨Nat.zero_le _, rfl⟩
  intro i hinv
  refine A3 (A2 ?_)
  refine A1 rfl rfl rfl (K6 rfl (A0 rfl) (A0 rfl)) ?_
  refine A4 (A3 ?_)
  refine C7 (A0 rfl) ?_ ?_
  ·intro h14
   have k14 := of_decide_eq_true h14; try simp only [A6] at k14
   have hlt : i < a.length := by omega
   obtain ⟨x, hx⟩ := get_some hlt
   obtain ⟨y, hy⟩ := get_some (show i < b.length by omega)
   refine D2 (A3 (D7 (A3 (A2 ?_))))
   refine A5 rfl rfl rfl rfl rfl ?_
   refine B9 rfl rfl rfl rfl rfl ?_
   refine A4 (A3 ?_)
   refine K3 (by kernel_rfl) (by kernel_rfl) rfl ?_
   refine B5 rfl rfl (C6 rfl (A0 rfl)) ?_
   refine B5 rfl rfl (C6 rfl (A0 rfl)) ?_
   refine B5 rfl rfl (I7 rfl N8 C0 (A0 rfl) (A0 rfl) hx (by first | omega | (simp only [A6, A7, B2, B7, A8, szR] at *; omega))) ?_
   refine B5 rfl rfl (N6 rfl (A0 rfl) D0 rfl) ?_
   refine B5 rfl rfl (C6 rfl (A0 rfl)) ?_
   refine B5 rfl rfl (C6 rfl (A0 rfl)) ?_
   refine B5 rfl rfl (I7 rfl N8 C0 (A0 rfl) (A0 rfl) hy (by first | omega | (simp only [A6, A7, B2, B7, A8, szR] at *; omega))) ?_
   refine B5 rfl rfl (N6 rfl (A0 rfl) D0 rfl) ?_
   refine B5 rfl rfl (g8 rfl (A0 rfl) (A0 rfl)) ?_
   refine O1 ?_
   refine C7 (A0 rfl) ?_ ?_
   ·intro h24
    have k24 := i9 h24; try simp only [A6] at k24
    have hab : a ≠ b := by intro hc; subst hc; rw [hx] at hy; injection hy with hy; subst hy; simp at h24
    refine A3 (A2 ?_)
    refine A1 rfl rfl rfl (C3 rfl F4) ?_
    refine A4 ?_
    refine C8 ?_
    exact H9 rfl (C5 rfl (by exact congrArg AV.bool (by simp [hab])))
   ·intro h24
    have k24 := V5 h24; try simp only [A6] at k24
    refine D2 (A2 ?_)
    refine A1 rfl rfl rfl (G7 rfl (A0 rfl) C4 (by first | omega | (simp only [A6, A7, B2, B7, A8, szR] at *; omega))) ?_
    refine A5 rfl rfl rfl rfl rfl ?_
    refine A4 ?_
    refine L4 i (i + 1) ?_ ?_ (J8 ⟨rfl, rfl, rfl, rfl, trivial⟩)
    ·exact ⟨by omega, i4 hinv.2 hx (by rw [hy]; congr 1; simp_all)⟩
    ·omega
  ·intro h14
   have k14 := of_decide_eq_false h14; try simp only [A6] at k14
   have hge : a.length ≤ i := by omega
   have hab : a = b := n8 heq hinv.2 hge
   refine H3 ?_
   refine A3 (A2 ?_)
   refine A1 rfl rfl rfl (C3 rfl F4) ?_
   refine A4 ?_
   refine C8 ?_
   exact H9 rfl (C5 rfl (by exact congrArg AV.bool (by simp [hab])))
end Go.Proofs.YtnlhbdkcgaeimaaGreat

set_option linter.unusedVariables false
set_option linter.unusedSimpArgs false
namespace Go.M
open Go.AV
theorem As7 {l : List TRec} (h : (stateOfR l).2.2 = true) : stateOfR l = (stFrom zState l, didFrom zState l, true) ∧ l.length ≤ 60 ∧ (∀ r ∈ l, goodRec r = true) := by
  unfold stateOfR at *
  split at h
  · rename_i h9; rw [if_pos h9]; exact ⟨rfl, h9.1, List.all_eq_true.1 h9.2⟩
  · cases h
theorem As8 {l : List TRec} (h : l.length ≤ 60) (hg : ∀ r ∈ l, goodRec r = true) : stateOfR l = (stFrom zState l, didFrom zState l, true) := if_pos ⟨h, List.all_eq_true.2 hg⟩
theorem AM0 {l : List TRec} (hl : l.length ≤ 12) (hs : ∀ r ∈ l, r.size ≤ 1002) : (stateOfR l).1.size ≤ 40000 := by
  unfold stateOfR
  split
  · have h1 := AD8 (stFrom zState l)
    have h2 := u6 (m := 1002) (s := zState) (l := l) hs
    have h3 : phi zState = 0 := rfl
    have h5 : l.length * (3 * (1 + 1002) + 1) ≤ 12 * 3010 := Nat.mul_le_mul hl (by decide)
    show (stFrom zState l).size ≤ _
    omega
  · decide
theorem BB9 {l : List TRec} (h : ∀ r ∈ l, goodRec r = true) : goodState (stFrom zState l) = true := Y7.2 (t7 t6 h)
end Go.M
