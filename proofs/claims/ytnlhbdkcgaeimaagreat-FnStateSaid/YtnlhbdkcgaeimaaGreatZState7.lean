/- Texts of the claim, part 7. -/
import Derived.RangeFuncNested
import Derived.RangeFuncBound
import Derived.RangeFuncCalls
import Derived.RangeFuncLeaves
import Derived.RangeFuncBox
import Derived.Shelf.Abstract
import Derived.Shelf.RegionOpen
import Derived.WalkKit
import Derived.OwnWalkIn
import Derived.TacticsInMore
import Derived.LoopNIn
import Derived.LoopIn
import Derived.ProofKit
import Derived.OpenShut
import Derived.ShutString
import Derived.ChangeOld
import Derived.Sort.Grow
import Derived.Lib.LaidTab
import Derived.Lib.ItoaNum
import Derived.Lib.Split
import Derived.Lib.SplitLaws
import Derived.Lib.ConvBytes
import Derived.WideLaws
import Derived.SizedLaws
import Derived.Test.YtnlhbdkcgaeimaaGreatZState6

set_option linter.unusedVariables false
set_option linter.unusedSimpArgs false
set_option maxRecDepth 100000
set_option maxHeartbeats 1000000
namespace Go.Proofs.YtnlhbdkcgaeimaaGreat
open Go Go.AV Go.M
attribute [local irreducible] OpW OpA OpS AWP FSpec ESpec GSpec OpE RetOk RetOkG RvDen Le Ev GuardIs SrcIs Int.tmod IntKind.wrap bandI
theorem Ay0 (b : Nat) (code : List Int) (hcode : ByteL code) (c : TCur) (hp : c.p ≤ 6000000) : GSpec Tryz.prog 291 [AV.ptr b 0] [.box b 127 (curC code c)] (fun x : TCur × Str => x.1.p ≤ c.p + 2 ∧ x.2.length ≤ 64) (fun x => [.box b 127 (curC code x.1)]) (fun x => AV.str x.2) := by
 refine J3 Tryz.func291 rfl Tryz.ntmps291 rfl ?_
 refine A3 (A2 ?_)
 refine A1 rfl rfl rfl (C3 rfl (T5 (l := []) rfl)) ?_
 refine A4 (A3 (A2 ?_))
 refine A6 rfl rfl rfl rfl rfl ?_
 refine A1 rfl rfl rfl (O1 rfl E6 G0 Tryz.zeroValue9 rfl rfl rfl rfl (E8 (T5 (l := []) rfl) (Q9 _) (E8 (T5 (l := [49]) rfl) (Q9 _) (E8 (T5 (l := [55]) rfl) (Q9 _) (E8 (T5 (l := [49, 48]) rfl) (Q9 _) (E8 (T5 (l := [45, 51]) rfl) (Q9 _) (E8 (T5 (l := [120]) rfl) (Q9 _) (E8 (T5 (l := [97, 44, 98, 95, 99]) rfl) (Q9 _) I5))))))) rfl rfl) ?_
 refine I8 [0] rfl rfl rfl rfl Tryz.call151 rfl (Ag6 _ _ hcode _ ([[], [49], [55], [49, 48], [45, 51], [120], [97, 44, 98, 95, 99]] : List Str) (by decide) (by omega)) (A7 (A0 rfl) (A7 (A0 rfl) D2)) rfl ?_
 intro x5 ok5
 refine C2 rfl rfl rfl rfl rfl ?_
 refine A4 ?_
 refine C8 ?_
 (refine K0 [0] ((_, _)) ?_ rfl (by first | (dsimp only; rfl) | rfl) (P3 rfl (D1 rfl (by rfl))); exact ok5)
theorem Ap3 (b : Nat) (code : List Int) (hcode : ByteL code) (c : TCur) (key : Str) (hp : c.p ≤ 5000000) : GSpec Tryz.prog 269 [AV.ptr b 0, AV.str key] [.box b 127 (curC code c)] (fun x : TCur × TWrite => x.1.p ≤ c.p + 4 ∧ x.2.Key = key ∧ x.2.Val.length ≤ 64) (fun x => [.box b 127 (curC code x.1)]) (fun x => AV.agg x.2.cs) := by
 refine J3 Tryz.func269 rfl Tryz.ntmps269 rfl ?_
 refine A3 (A2 ?_)
 refine F4 rfl rfl rfl rfl Tryz.zeroValue77 rfl ?_
 intro b4
 refine A4 (A3 (A3 (A2 ?_)))
 refine A6 rfl rfl rfl rfl rfl ?_
 refine I8 [1] rfl rfl rfl rfl Tryz.call79 rfl (e6 _ _ hcode _ _ (by omega) (by omega)) (A7 (A0 rfl) (A7 C6 D2)) rfl ?_
 intro x6 ok6
 refine A4 ?_
 refine D0 (A0 rfl) ?_ ?_
 ·intro h6
  refine A3 (A2 ?_)
  refine A6 rfl rfl rfl rfl rfl ?_
  refine A1 rfl rfl rfl (N2 (places := #[(0, 1), (1, 1), (2, 1)]) rfl J8 Tryz.zeroValue77 (fun w => by kernel_rfl) rfl (E8 (A0 rfl) (Q9 _) (E8 F5 (W1 _) I5)) rfl) ?_
  refine D3 1 rfl rfl rfl (A0 rfl) (A0 rfl) (D8 _) rfl I6 rfl ?_
  refine A4 ?_
  refine C8 ?_
  (refine K0 [0] ((_, ⟨_, _, _⟩)) ?_ rfl (by first | (dsimp only; rfl) | rfl) (P3 rfl (G3 (ys := _) 1 rfl rfl S2 I6 rfl)); (dsimp only; first | exact ⟨by omega, rfl, by simp⟩ | exact ⟨by omega, rfl, ok11.2⟩))
 ·intro h6
  refine D5 (A3 (A2 ?_))
  refine A6 rfl rfl rfl rfl rfl ?_
  refine A6 rfl rfl rfl rfl rfl ?_
  refine I8 [0] rfl rfl rfl rfl Tryz.call291 rfl (Ay0 _ _ hcode _ (by omega)) (A7 (A0 rfl) D2) rfl ?_
  intro x11 ok11
  refine A1 rfl rfl rfl (N2 (places := #[(0, 1), (1, 1), (2, 1)]) rfl J8 Tryz.zeroValue77 (fun w => by kernel_rfl) rfl (E8 (A0 rfl) (Q9 _) (E8 (A0 rfl) (Q9 _) I5)) rfl) ?_
  refine D3 1 rfl rfl rfl (A0 rfl) (A0 rfl) (D8 _) rfl I6 rfl ?_
  refine A4 ?_
  refine C8 ?_
  (refine K0 [0] ((_, ⟨_, _, _⟩)) ?_ rfl (by first | (dsimp only; rfl) | rfl) (P3 rfl (G3 (ys := _) 1 rfl rfl S2 I6 rfl)); (dsimp only; first | exact ⟨by omega, rfl, by simp⟩ | exact ⟨by omega, rfl, ok11.2⟩))
def keysD : List Str := [[97], [98], [99], [105, 47, 120, 47, 49], [109], [110], [114, 47, 49], [122]]
theorem BB3 {s : Str} {i : Nat} (h : keysD[i]? = some s) : s.length ≤ 5 := by
  have : ∀ s ∈ keysD, s.length ≤ 5 := by decide
  exact this s (H2 h)
theorem Aj3 (b : Nat) (code : List Int) (hcode : ByteL code) (c : TCur) (hp : c.p ≤ 3000000) : GSpec Tryz.prog 219 [AV.ptr b 0] [.box b 127 (curC code c)] (fun x : TCur × List TWrite × Value => x.1.p ≤ c.p + 48 ∧ sizeL TWrite.size x.2.1 ≤ 560) (fun x => [.box b 127 (curC code x.1), .arr x.2.2 77 3 (x.2.1.map TWrite.cs)]) (fun x => AV.is x.2.2) := by
 refine J3 Tryz.func219 rfl Tryz.ntmps219 rfl ?_
 refine A3 (A2 ?_)
 refine A1 rfl rfl rfl (C3 rfl M6) ?_
 refine A4 (A3 (A2 ?_))
 refine S1 77 3 rfl rfl rfl rfl M6 ?_
 intro v3
 refine A4 (A3 (A3 (A2 ?_)))
 refine A1 rfl rfl rfl (O1 rfl E6 G0 Tryz.zeroValue9 rfl rfl rfl rfl (E8 (T5 (l := [97]) rfl) (Q9 _) (E8 (T5 (l := [98]) rfl) (Q9 _) (E8 (T5 (l := [99]) rfl) (Q9 _) (E8 (T5 (l := [105, 47, 120, 47, 49]) rfl) (Q9 _) (E8 (T5 (l := [109]) rfl) (Q9 _) (E8 (T5 (l := [110]) rfl) (Q9 _) (E8 (T5 (l := [114, 47, 49]) rfl) (Q9 _) (E8 (T5 (l := [122]) rfl) (Q9 _) I5)))))))) rfl rfl) ?_
 refine A1 rfl rfl rfl (G4 rfl E6 (A0 rfl)) ?_
 refine A1 rfl rfl rfl (C7 rfl C6) ?_
 refine A4 (E1 ?_)
 refine AWP.le (H7 [1, 0] rfl) ?_
 refine p6 [(0, _), (2, _), (6, _), (7, _)] _ (fun (i : Nat) (cc : TCur) (l : List TWrite) (v : Value) => i ≤ 8 ∧ cc.p ≤ c.p + 6 * i ∧ sizeL TWrite.size l ≤ 70 * i) (fun (i : Nat) (cc : TCur) (l : List TWrite) (v : Value) => [.box b 127 (curC code cc), .arr v 77 3 (l.map TWrite.cs)]) (fun (i : Nat) (cc : TCur) (l : List TWrite) (v : Value) => [(3, AV.is v), (8, AV.int i)]) (fun (i : Nat) (cc : TCur) (l : List TWrite) (v : Value) => 8 - i) (0) (c) ([]) (v3) ?_ (U7 (by rfl) ⟨rfl, rfl, rfl, rfl, rfl, rfl, trivial⟩) ?_
 ·exact ⟨by omega, by omega, by simp [sizeL]⟩
 intro i cc l v hinv
 refine A3 (A2 ?_)
 refine A1 rfl rfl rfl (M2 rfl (A0 rfl) (A0 rfl)) ?_
 refine A4 (A3 ?_)
 refine D0 (A0 rfl) ?_ ?_
 ·intro h9
  have k9 := of_decide_eq_true h9; try simp only [A5] at k9
  have hlt : i < 8 := by simp only [B0] at k9; omega
  obtain ⟨y, hy⟩ := get_some (show i < keysD.length from hlt)
  have hyl := BB3 hy
  have hyy : (keysD.map fun s => [AV.str s])[i]? = some [AV.str y] := by rw [List.getElem?_map, hy]; rfl
  have hll : l.length ≤ 560 := by have := O8 (f := TWrite.size) (l := l); omega
  refine D5 (A3 (E1 (A3 (A2 ?_))))
  refine A1 rfl rfl rfl (j6 rfl E6 G0 (A0 rfl) (A0 rfl) (by omega) (by rw [Int.toNat_natCast]; exact hyy)) ?_
  refine A1 rfl rfl rfl (N4 rfl (A0 rfl) H3 rfl) ?_
  refine C2 rfl rfl rfl rfl rfl ?_
  refine A4 (A3 (A2 ?_))
  refine A6 rfl rfl rfl rfl rfl ?_
  refine I8 [0] rfl rfl rfl rfl Tryz.call79 rfl (e6 _ _ hcode _ _ (by omega) (by omega)) (A7 (A0 rfl) (A7 C6 D2)) rfl ?_
  intro x13 ok13
  refine A4 ?_
  refine D0 (A0 rfl) ?_ ?_
  ·intro h13
   refine A2 ?_
   refine A6 rfl rfl rfl rfl rfl ?_
   refine A6 rfl rfl rfl rfl rfl ?_
   refine A6 rfl rfl rfl rfl rfl ?_
   refine I8 [0] rfl rfl rfl rfl Tryz.call269 rfl (Ap3 _ _ hcode _ _ (by omega)) (A7 (A0 rfl) (A7 (A0 rfl) D2)) rfl ?_
   intro x17 ok17
   refine A1 rfl rfl rfl (O1 rfl G1 I6 Tryz.zeroValue77 rfl rfl rfl rfl (E8 (A0 rfl) (D8 _) I5) rfl rfl) ?_
   refine N6 (by' := 40) 1 rfl rfl rfl rfl G1 Tryz.type77 rfl rfl rfl rfl rfl rfl (A0 rfl) (A0 rfl) rfl (by first | omega | (simp only [A5, B1, B5, C1, B0, szR] at *; omega)) ?_
   intro v19_1
   refine C2 rfl rfl rfl rfl rfl ?_
   refine A4 (A2 ?_)
   refine A1 rfl rfl rfl (H4 rfl (A0 rfl) C6 (by first | omega | (simp only [A5, B1, B5, C1, B0, szR] at *; omega))) ?_
   refine A6 rfl rfl rfl rfl rfl ?_
   refine A4 ?_
   refine Y2 i cc l v (i + 1) (x17.1) (l ++ [x17.2]) (v19_1) ?_ ?_ (Le.trans (H7 [0, 0] rfl) (U7 (by first | rfl | (rw [List.map_append]; rfl)) ⟨rfl, rfl, rfl, rfl, rfl, rfl, trivial⟩))
   ·exact ⟨by omega, by omega, by (have h9 : x17.2.size ≤ 69 := by unfold TWrite.size; rw [ok17.2.1]; omega); rw [show sizeL TWrite.size (l ++ [x17.2]) = sizeL TWrite.size l + x17.2.size + 1 from by unfold sizeL; simp; omega]; omega⟩
   ·omega
  ·intro h13
   refine D5 (A2 ?_)
   refine A1 rfl rfl rfl (H4 rfl (A0 rfl) C6 (by first | omega | (simp only [A5, B1, B5, C1, B0, szR] at *; omega))) ?_
   refine A6 rfl rfl rfl rfl rfl ?_
   refine A4 ?_
   refine Y2 i cc l v (i + 1) (x13.1) (l) (v) ?_ ?_ (Le.trans (H7 [0, 0] rfl) (U7 (by first | rfl | (rw [List.map_append]; rfl)) ⟨rfl, rfl, rfl, rfl, rfl, rfl, trivial⟩))
   ·exact ⟨by omega, by omega, by omega⟩
   ·omega
 ·intro h9
  have k9 := of_decide_eq_false h9; try simp only [A5] at k9
  refine I4 ?_
  refine A3 (A2 ?_)
  refine A6 rfl rfl rfl rfl rfl ?_
  refine C2 rfl rfl rfl rfl rfl ?_
  refine A4 ?_
  refine C8 ?_
  (refine K0 [0, 0] ((cc, l, v)) ?_ rfl (by first | (dsimp only; rfl) | rfl) (P3 rfl (D1 rfl (by rfl))); exact ⟨show cc.p ≤ _ by omega, show sizeL TWrite.size l ≤ _ by omega⟩)
end Go.Proofs.YtnlhbdkcgaeimaaGreat

set_option linter.unusedVariables false
set_option linter.unusedSimpArgs false
set_option maxRecDepth 100000
set_option maxHeartbeats 2000000
namespace Go.M
open Go.AV
theorem AB2 {α : Type} (f : α → Nat) (l : List α) (x : α) : sizeL f (l ++ [x]) = sizeL f l + f x + 1 := by unfold sizeL; simp; omega
theorem Ah6 (s : Str) : ∀ l : List Str, sizeL (fun x : Str => x.length) (putS l s) ≤ sizeL (fun x : Str => x.length) l + s.length + 1
  | [] => by unfold putS sizeL; simp; omega
  | y :: l => by
    have ih := Ah6 s l
    have hc : ∀ (z : Str) (q : List Str), sizeL (fun x : Str => x.length) (z :: q) = sizeL (fun x : Str => x.length) q + z.length + 1 := fun z q => by unfold sizeL; simp; omega
    unfold putS
    split
    · rw [hc s]; omega
    · split
      · omega
      · rw [hc, hc]; omega
end Go.M
namespace Go.Proofs.YtnlhbdkcgaeimaaGreat
open Go Go.AV Go.M
attribute [local irreducible] OpW OpA OpS AWP FSpec ESpec GSpec OpE RetOk RetOkG RvDen Le Ev GuardIs SrcIs Int.tmod Int.tdiv IntKind.wrap bandI
theorem Aa7 (b : Nat) (code : List Int) (hcode : ByteL code) (c : TCur) (hp : c.p ≤ 2000000) : GSpec Tryz.prog 175 [AV.ptr b 0] [.box b 127 (curC code c)] (fun x : TCur × TRec × Value × Value => x.1.p ≤ c.p + 100 ∧ x.2.1.size ≤ 1000 ∧ 0 ≤ x.2.1.Lead ∧ x.2.1.Lead ≤ 3 ∧ 0 ≤ x.2.1.Time ∧ x.2.1.Time ≤ 100001) (fun x => .box b 127 (curC code x.1) :: TRec.ow x.2.1 x.2.2) (fun x => AV.agg (TRec.ocs x.2.1 x.2.2)) := by
 refine J3 Tryz.func175 rfl Tryz.ntmps175 rfl ?_
 refine A3 (A2 ?_)
 refine F4 rfl rfl rfl rfl Tryz.zeroValue49 rfl ?_
 intro b2
 refine A4 (A3 (A2 ?_))
 refine A6 rfl rfl rfl rfl rfl ?_
 refine I8 [1] rfl rfl rfl rfl Tryz.call100 rfl (Q2 _ _ hcode _ _ (by omega) (by omega)) (A7 (A0 rfl) (A7 C6 D2)) rfl ?_
 intro x6 ok6
 refine A1 rfl rfl rfl (H4 rfl C6 (A0 rfl) (by first | omega | (simp only [A5, B1, B5, C1, B0, szR] at *; omega))) ?_
 refine A6 rfl rfl rfl rfl rfl ?_
 refine I8 [0] rfl rfl rfl rfl Tryz.call100 rfl (Q2 _ _ hcode _ _ (by omega) (by omega)) (A7 (A0 rfl) (A7 C6 D2)) rfl ?_
 intro x9 ok9
 refine A1 rfl rfl rfl (H4 rfl C6 (A0 rfl) (by first | omega | (simp only [A5, B1, B5, C1, B0, szR] at *; omega))) ?_
 refine A6 rfl rfl rfl rfl rfl ?_
 refine I8 [0] rfl rfl rfl rfl Tryz.call100 rfl (Q2 _ _ hcode _ _ (by omega) (by omega)) (A7 (A0 rfl) (A7 C6 D2)) rfl ?_
 intro x12 ok12
 refine A1 rfl rfl rfl (H4 rfl C6 (A0 rfl) (by first | omega | (simp only [A5, B1, B5, C1, B0, szR] at *; omega))) ?_
 refine A1 rfl rfl rfl (N2 (places := #[(0, 1), (1, 1), (2, 1), (3, 1), (4, 1), (5, 1), (6, 1)]) rfl B6 Tryz.zeroValue49 (fun w => by kernel_rfl) rfl (E8 (A0 rfl) (L9 _ _) (E8 (A0 rfl) (L9 _ _) (E8 (A0 rfl) (L9 _ _) I5))) rfl) ?_
 refine F4 rfl rfl rfl rfl Tryz.zeroValue49 rfl ?_
 intro b3
 refine D3 0 rfl rfl rfl (A0 rfl) (A0 rfl) (D8 _) rfl E0 rfl ?_
 refine A4 (A3 (A3 (A2 ?_)))
 refine A1 rfl rfl rfl (B3 0 rfl B6 rfl C0 (A0 rfl) rfl) ?_
 refine A1 rfl rfl rfl (B2 0 rfl (A0 rfl) rfl C5 rfl) ?_
 refine A4 (E1 (A3 (A2 ?_)))
 refine A1 rfl rfl rfl (N3 rfl (A0 rfl) C6) ?_
 refine C2 rfl rfl rfl rfl rfl ?_
 refine A4 ?_
 refine D0 (A0 rfl) ?_ ?_
 ·intro h24
  have k24 := M1 h24; try simp only [A5] at k24
  refine A3 (A2 ?_)
  refine A6 rfl rfl rfl rfl rfl ?_
  refine I8 [1] rfl rfl rfl rfl Tryz.call100 rfl (Q2 _ _ hcode _ _ (by omega) (by omega)) (A7 (A0 rfl) (A7 C6 D2)) rfl ?_
  intro x27 ok27
  refine A1 rfl rfl rfl (B3 3 rfl B6 rfl C0 (A0 rfl) rfl) ?_
  refine I3 1 rfl rfl rfl (A0 rfl) (A0 rfl) (L9 _ _) rfl C0 rfl ?_
  refine A4 (A3 (A3 (A2 ?_)))
  refine A6 rfl rfl rfl rfl rfl ?_
  refine I8 [0] rfl rfl rfl rfl Tryz.call100 rfl (Q2 _ _ hcode _ _ (by omega) (by omega)) (A7 (A0 rfl) (A7 C6 D2)) rfl ?_
  intro x30 ok30
  refine C2 rfl rfl rfl rfl rfl ?_
  refine A4 (E1 ?_)
  refine Y7 9 1 ?_
  refine AWP.le (H7 [2, 1, 0] rfl) ?_
  refine p6 [(0, _), (2, _), (3, _)] _ (fun (n : Int) (cc : TCur) (l : List Str) (v : Value) => (0 ≤ n ∧ n + l.length ≤ 3) ∧ cc.p + 4 * n ≤ c.p + 22 ∧ SrtS l ∧ sizeL (fun x : Str => x.length) l + 70 * n ≤ 210) (fun (n : Int) (cc : TCur) (l : List Str) (v : Value) => [.box b3 49 [AV.int (1 + x6.2), AV.int (1 + x9.2), AV.int (1 + x12.2), AV.int x27.2, AV.is v, AV.nils, AV.bool false], .box b 127 (curC code cc), .arr v 9 1 (l.map fun t => [AV.str t])]) (fun (n : Int) (cc : TCur) (l : List Str) (v : Value) => [(4, AV.int n)]) (fun (n : Int) (cc : TCur) (l : List Str) (v : Value) => n.toNat) (x30.2) (x30.1) ([]) ((Value.slice none 0 0)) ?_ (U7 (by rfl) ⟨rfl, rfl, rfl, rfl, trivial⟩) ?_
  ·exact ⟨⟨by omega, by simp; omega⟩, by omega, List.Pairwise.nil, by simp [sizeL]; omega⟩
  intro n cc l v hinv
  refine A3 (A3 (A2 ?_))
  refine A6 rfl rfl rfl rfl rfl ?_
  refine A1 rfl rfl rfl (P4 rfl (A0 rfl) C6) ?_
  refine A4 ?_
  refine D0 (A0 rfl) ?_ ?_
  ·intro h32
   have k32 := of_decide_eq_true h32; try simp only [A5] at k32
   refine D5 (A3 (E1 ?_))
   refine P5 _ [(0, false), (1, false), (2, false), (3, true), (4, true)] (by kernel_rfl) (by kernel_rfl) rfl (N8 1) ?_
   refine F2 rfl rfl rfl (fun ext => B3 4 rfl B6 rfl L8 (A0 rfl) rfl) ?_
   refine F2 rfl rfl rfl (fun ext => B2 0 rfl (A0 rfl) rfl O4 rfl) ?_
   refine F2 rfl rfl rfl (fun ext => C7 rfl (A0 rfl)) ?_
   refine T1 rfl rfl rfl (V8 [1] rfl Tryz.call116 rfl (Aw7 _ _ hcode _ (by omega)) (A7 (A0 rfl) D2) rfl) (fun a _ => (by first | exact E9 rfl | exact E9 (List.append_assoc _ _ _) | exact H5)) ?_
   intro x38 ok38
   refine T1 rfl rfl rfl (V8 [1] rfl Tryz.call122 rfl (AM0 v l x38.2 hinv.2.2.1 (by omega)) (A7 (A0 rfl) (A7 (A0 rfl) D2)) rfl) (fun a _ => (by first | exact E9 rfl | exact E9 (List.append_assoc _ _ _) | exact H5)) ?_
   intro x39 ok39
   refine X1 ?_
   refine A1 rfl rfl rfl (B3 4 rfl B6 rfl L8 (A0 rfl) rfl) ?_
   refine R9 3 rfl fun one_x39 => ?_
   refine I3 0 rfl rfl rfl (A0 rfl) (A0 rfl) (S4 one_x39) rfl L8 rfl ?_
   refine A4 (A2 ?_)
   refine A6 rfl rfl rfl rfl rfl ?_
   refine A1 rfl rfl rfl (S5 rfl (A0 rfl) C6 (by first | omega | (simp only [A5, B1, B5, C1, B0, szR] at *; omega))) ?_
   refine C2 rfl rfl rfl rfl rfl ?_
   refine A4 ?_
   refine Y2 n cc l v (n - 1) (x38.1) (putS l x38.2) (x39) ?_ ?_ (Le.trans (H7 [0, 1, 1] rfl) (U7 (by rfl) ⟨rfl, rfl, rfl, rfl, trivial⟩))
   ·(have h9 := AW1 x38.2 l; have h8 := Ah6 x38.2 l; exact ⟨⟨by omega, by omega⟩, by omega, (AW0 hinv.2.2.1).1, by omega⟩)
   ·omega
  ·intro h32
   have k32 := of_decide_eq_false h32; try simp only [A5] at k32
   refine I4 ?_
   refine A3 (A2 ?_)
   refine A6 rfl rfl rfl rfl rfl ?_
   refine I8 [1] rfl rfl rfl rfl Tryz.call219 rfl (Aj3 _ _ hcode _ (by omega)) (A7 (A0 rfl) D2) rfl ?_
   intro x42 ok42
   refine A1 rfl rfl rfl (B3 5 rfl B6 rfl K6 (A0 rfl) rfl) ?_
   refine R9 1 rfl fun one_x42_2_2 => ?_
   refine I3 2 rfl rfl rfl (A0 rfl) (A0 rfl) (S4 one_x42_2_2) rfl K6 rfl ?_
   refine A4 (A3 (A2 ?_))
   refine A1 rfl rfl rfl (B3 4 rfl B6 rfl L8 (A0 rfl) rfl) ?_
   refine A1 rfl rfl rfl (B2 2 rfl (A0 rfl) rfl O4 rfl) ?_
   refine A1 rfl rfl rfl (V4 3 rfl E6 (A0 rfl) rfl) ?_
   refine A1 rfl rfl rfl (B3 5 rfl B6 rfl K6 (A0 rfl) rfl) ?_
   refine A1 rfl rfl rfl (B2 2 rfl (A0 rfl) rfl M5 rfl) ?_
   refine A1 rfl rfl rfl (V4 1 rfl G1 (A0 rfl) rfl) ?_
   refine A1 rfl rfl rfl (H4 rfl (A0 rfl) (A0 rfl) (by simp only [A5]; have h9 := O8 (f := TWrite.size) (l := x42.2.1); omega)) ?_
   refine A1 rfl rfl rfl (N3 rfl (A0 rfl) C6) ?_
   refine A4 ?_
   refine D0 (A0 rfl) ?_ ?_
   ·intro h51
    have k51 := M1 h51; try simp only [A5] at k51
    refine A2 ?_
    refine o3 rfl rfl rfl rfl E6 G0 Tryz.zeroValue9 rfl rfl rfl rfl (E8 (T5 (l := [97]) rfl) (Q9 _) I5) rfl rfl ?_
    intro v52
    refine A1 rfl rfl rfl (B3 4 rfl B6 rfl L8 (A0 rfl) rfl) ?_
    refine R9 0 rfl fun one_v52 => ?_
    refine I3 3 rfl rfl rfl (A0 rfl) (A0 rfl) (S4 one_v52) rfl L8 rfl ?_
    refine A4 (A3 (A2 ?_))
    refine A1 rfl rfl rfl (D9 3 rfl (A0 rfl) rfl G5 E0 rfl) ?_
    refine D3 5 rfl rfl rfl (A0 rfl) (A0 rfl) (D8 _) rfl E0 rfl ?_
    refine A4 ?_
    refine C8 ?_
    (refine K0 [1, 0, 0] ((x42.1, ⟨1 + x6.2, 1 + x9.2, 1 + x12.2, x27.2, [[97]], x42.2.1, false⟩, v52, x42.2.2)) ?_ rfl (by first | (dsimp only; rfl) | rfl) (P3 rfl (G3 (ys := _) 5 rfl rfl G5 E0 rfl)); (dsimp only [TRec.size]; exact ⟨by omega, by first | (simp [sizeL]; done) | (simp only [sizeL, B5, C1, List.map_cons, List.map_nil, List.sum_cons, List.sum_nil] at *; omega) | omega, by omega, by omega, by omega, by omega⟩))
   ·intro h51
    have k51 := M0 h51; try simp only [A5] at k51
    refine D5 (A3 (A2 ?_))
    refine A1 rfl rfl rfl (D9 2 rfl (A0 rfl) rfl G5 E0 rfl) ?_
    refine D3 4 rfl rfl rfl (A0 rfl) (A0 rfl) (D8 _) rfl E0 rfl ?_
    refine A4 ?_
    refine C8 ?_
    (refine K0 [0, 2, 0] ((x42.1, ⟨1 + x6.2, 1 + x9.2, 1 + x12.2, x27.2, l, x42.2.1, false⟩, v, x42.2.2)) ?_ rfl (by first | (dsimp only; rfl) | rfl) (P3 rfl (G3 (ys := _) 4 rfl rfl G5 E0 rfl)); (dsimp only [TRec.size]; exact ⟨by omega, by first | (simp [sizeL]; done) | (simp only [sizeL, B5, C1, List.map_cons, List.map_nil, List.sum_cons, List.sum_nil] at *; omega) | omega, by omega, by omega, by omega, by omega⟩))
 ·intro h24
  have k24 := M0 h24; try simp only [A5] at k24
  refine A3 (A2 ?_)
  refine A1 rfl rfl rfl (N3 rfl (A0 rfl) C6) ?_
  refine C2 rfl rfl rfl rfl rfl ?_
  refine A4 ?_
  refine D0 (A0 rfl) ?_ ?_
  ·intro h54
   have k54 := M1 h54; try simp only [A5] at k54
   refine A2 ?_
   refine A1 rfl rfl rfl (B3 1 rfl B6 rfl C0 (A0 rfl) rfl) ?_
   refine I3 0 rfl rfl rfl (A0 rfl) C6 (L9 _ _) rfl C0 rfl ?_
   refine A4 (A3 (A2 ?_))
   refine A1 rfl rfl rfl (D9 0 rfl (A0 rfl) rfl G5 E0 rfl) ?_
   refine D3 2 rfl rfl rfl (A0 rfl) (A0 rfl) (D8 _) rfl E0 rfl ?_
   refine A4 ?_
   refine C8 ?_
   refine U5 9 1 ?_
   refine U5 77 3 ?_
   (refine K0 [3, 1, 0] ((x12.1, ⟨1 + x6.2, 0, 1 + x12.2, 0, [], [], false⟩, Value.slice none 0 0, Value.slice none 0 0)) ?_ rfl (by first | (dsimp only; rfl) | rfl) (P3 rfl (G3 (ys := _) 4 rfl rfl G5 E0 rfl)); (dsimp only [TRec.size]; exact ⟨by omega, by first | (simp [sizeL]; done) | (simp only [sizeL, B5, C1, List.map_cons, List.map_nil, List.sum_cons, List.sum_nil] at *; omega) | omega, by omega, by omega, by omega, by omega⟩))
  ·intro h54
   have k54 := M0 h54; try simp only [A5] at k54
   refine A3 (A2 ?_)
   refine A6 rfl rfl rfl rfl rfl ?_
   refine I8 [1] rfl rfl rfl rfl Tryz.call79 rfl (e6 _ _ hcode _ _ (by omega) (by omega)) (A7 (A0 rfl) (A7 C6 D2)) rfl ?_
   intro x18 ok18
   refine A1 rfl rfl rfl (B3 6 rfl B6 rfl J7 (A0 rfl) rfl) ?_
   refine I3 1 rfl rfl rfl (A0 rfl) (A0 rfl) (W1 _) rfl J7 rfl ?_
   refine A4 (A3 (A2 ?_))
   refine A1 rfl rfl rfl (B3 6 rfl B6 rfl J7 (A0 rfl) rfl) ?_
   refine A1 rfl rfl rfl (B2 1 rfl (A0 rfl) rfl K3 rfl) ?_
   refine A1 rfl rfl rfl (N1 rfl (A0 rfl)) ?_
   refine A4 ?_
   refine D0 (A0 rfl) ?_ ?_
   ·intro h22
    refine A2 ?_
    refine A1 rfl rfl rfl (B3 2 rfl B6 rfl C0 (A0 rfl) rfl) ?_
    refine I3 1 rfl rfl rfl (A0 rfl) C6 (L9 _ _) rfl C0 rfl ?_
    refine A4 (A3 (A2 ?_))
    refine A1 rfl rfl rfl (D9 1 rfl (A0 rfl) rfl G5 E0 rfl) ?_
    refine D3 2 rfl rfl rfl (A0 rfl) (A0 rfl) (D8 _) rfl E0 rfl ?_
    refine A4 ?_
    refine C8 ?_
    refine U5 9 1 ?_
    refine U5 77 3 ?_
    (refine K0 [2, 1, 0] ((x18.1, ⟨1 + x6.2, 1 + x9.2, 0, 0, [], [], x18.2⟩, Value.slice none 0 0, Value.slice none 0 0)) ?_ rfl (by first | (dsimp only; rfl) | rfl) (P3 rfl (G3 (ys := _) 4 rfl rfl G5 E0 rfl)); (dsimp only [TRec.size]; exact ⟨by omega, by first | (simp [sizeL]; done) | (simp only [sizeL, B5, C1, List.map_cons, List.map_nil, List.sum_cons, List.sum_nil] at *; omega) | omega, by omega, by omega, by omega, by omega⟩))
   ·intro h22
    refine D5 (A3 (A2 ?_))
    refine A1 rfl rfl rfl (D9 1 rfl (A0 rfl) rfl G5 E0 rfl) ?_
    refine D3 2 rfl rfl rfl (A0 rfl) (A0 rfl) (D8 _) rfl E0 rfl ?_
    refine A4 ?_
    refine C8 ?_
    refine U5 9 1 ?_
    refine U5 77 3 ?_
    (refine K0 [2, 1, 0] ((x18.1, ⟨1 + x6.2, 1 + x9.2, 1 + x12.2, 0, [], [], x18.2⟩, Value.slice none 0 0, Value.slice none 0 0)) ?_ rfl (by first | (dsimp only; rfl) | rfl) (P3 rfl (G3 (ys := _) 4 rfl rfl G5 E0 rfl)); (dsimp only [TRec.size]; exact ⟨by omega, by first | (simp [sizeL]; done) | (simp only [sizeL, B5, C1, List.map_cons, List.map_nil, List.sum_cons, List.sum_nil] at *; omega) | omega, by omega, by omega, by omega, by omega⟩))
theorem Aj4 (b : Nat) (code : List Int) (hcode : ByteL code) (c : TCur) (hp : c.p ≤ 1000000) : GSpec Tryz.prog 80 [AV.ptr b 0] [.box b 127 (curC code c)] (fun x : TCur × TRec × Value × Value => x.1.p ≤ c.p + 120 ∧ x.2.1.size ≤ 1002 ∧ 0 ≤ x.2.1.Lead ∧ x.2.1.Lead ≤ 3 ∧ 0 ≤ x.2.1.Time ∧ x.2.1.Time ≤ 100001) (fun x => .box b 127 (curC code x.1) :: TRec.ow x.2.1 x.2.2) (fun x => AV.agg (TRec.ocs x.2.1 x.2.2)) := by
 refine J3 Tryz.func80 rfl Tryz.ntmps80 rfl ?_
 refine A3 (A2 ?_)
 refine F4 rfl rfl rfl rfl Tryz.zeroValue49 rfl ?_
 intro b2
 refine A4 (A3 (A2 ?_))
 refine A6 rfl rfl rfl rfl rfl ?_
 refine I8 [1] rfl rfl rfl rfl Tryz.call175 rfl (Aa7 _ _ hcode _ (by omega)) (A7 (A0 rfl) D2) rfl ?_
 intro x5 ok5
 have hsz := ok5.2.1
 have hld := ok5.2.2
 unfold TRec.size at hsz
 have hrl : x5.2.1.Reads.length ≤ 1000 := Nat.le_trans O8 (show sizeL (fun x : Str => x.length) x5.2.1.Reads ≤ 1000 by omega)
 refine F4 rfl rfl rfl rfl Tryz.zeroValue49 rfl ?_
 intro b3
 refine D3 0 rfl rfl rfl (A0 rfl) (A0 rfl) (D8 _) rfl E0 rfl ?_
 refine A4 (A3 (A3 (A2 ?_)))
 refine A6 rfl rfl rfl rfl rfl ?_
 refine I8 [1] rfl rfl rfl rfl Tryz.call100 rfl (Q2 _ _ hcode _ _ (by omega) (by omega)) (A7 (A0 rfl) (A7 C6 D2)) rfl ?_
 intro x7 ok7
 refine A4 (E1 (A3 (A2 ?_)))
 refine A1 rfl rfl rfl (N3 rfl (A0 rfl) C6) ?_
 refine C2 rfl rfl rfl rfl rfl ?_
 refine A4 ?_
 refine D0 (A0 rfl) ?_ ?_
 ·intro h8
  have k8 := M1 h8; try simp only [A5] at k8
  refine A2 ?_
  refine A6 rfl rfl rfl rfl rfl ?_
  refine I8 [0] rfl rfl rfl rfl Tryz.call100 rfl (Q2 _ _ hcode _ _ (by omega) (by omega)) (A7 (A0 rfl) (A7 C6 D2)) rfl ?_
  intro x11 ok11
  refine A1 rfl rfl rfl (B3 0 rfl B6 rfl C0 (A0 rfl) rfl) ?_
  refine I3 1 rfl rfl rfl (A0 rfl) (A0 rfl) (L9 _ _) rfl C0 rfl ?_
  refine A4 (A3 (A2 ?_))
  refine A1 rfl rfl rfl (D9 1 rfl (A0 rfl) rfl G5 E0 rfl) ?_
  refine D3 4 rfl rfl rfl (A0 rfl) (A0 rfl) (D8 _) rfl E0 rfl ?_
  refine A4 ?_
  refine C8 ?_
  (refine K0 [0, 1, 1] ((x11.1, ⟨x11.2, x5.2.1.Txn, x5.2.1.Time, x5.2.1.Lead, x5.2.1.Reads, x5.2.1.Writes, x5.2.1.Yes⟩, x5.2.2.1, x5.2.2.2)) ?_ rfl (by first | rfl | (unfold TRec.ow; dsimp only; rw [List.map_append]; rfl)) (P3 rfl (G3 (ys := _) 4 rfl rfl G5 E0 rfl)); (dsimp only [TRec.size]; exact ⟨by omega, by first | omega | (rw [AB2]; simp only [B5, C1]; omega), hld.1, hld.2.1, by first | exact hld.2.2.1 | (have h9 := ok23.2; simp at h9; omega), by first | exact hld.2.2.2 | (have h9 := ok23.2; simp at h9; omega)⟩))
 ·intro h8
  have k8 := M0 h8; try simp only [A5] at k8
  refine A3 (A2 ?_)
  refine A1 rfl rfl rfl (N3 rfl (A0 rfl) C6) ?_
  refine C2 rfl rfl rfl rfl rfl ?_
  refine A4 ?_
  refine D0 (A0 rfl) ?_ ?_
  ·intro h13
   have k13 := M1 h13; try simp only [A5] at k13
   refine A2 ?_
   refine A6 rfl rfl rfl rfl rfl ?_
   refine A1 rfl rfl rfl (O1 rfl c0 C0 Tryz.zeroValue3 rfl rfl rfl rfl (E8 C6 (L9 _ _) (E8 C6 (L9 _ _) (E8 C6 (L9 _ _) I5))) rfl rfl) ?_
   refine I8 [0] rfl rfl rfl rfl Tryz.call129 rfl (s6 _ _ hcode _ ([(0), (60), (61)] : List Int) (by decide) (by omega)) (A7 (A0 rfl) (A7 (A0 rfl) D2)) rfl ?_
   intro x17 ok17
   refine A1 rfl rfl rfl (B3 1 rfl B6 rfl C0 (A0 rfl) rfl) ?_
   refine I3 1 rfl rfl rfl (A0 rfl) (A0 rfl) (L9 _ _) rfl C0 rfl ?_
   refine A4 (A3 (A2 ?_))
   refine A1 rfl rfl rfl (D9 1 rfl (A0 rfl) rfl G5 E0 rfl) ?_
   refine D3 4 rfl rfl rfl (A0 rfl) (A0 rfl) (D8 _) rfl E0 rfl ?_
   refine A4 ?_
   refine C8 ?_
   (refine K0 [0, 1, 1] ((x17.1, ⟨x5.2.1.Kind, x17.2, x5.2.1.Time, x5.2.1.Lead, x5.2.1.Reads, x5.2.1.Writes, x5.2.1.Yes⟩, x5.2.2.1, x5.2.2.2)) ?_ rfl (by first | rfl | (unfold TRec.ow; dsimp only; rw [List.map_append]; rfl)) (P3 rfl (G3 (ys := _) 4 rfl rfl G5 E0 rfl)); (dsimp only [TRec.size]; exact ⟨by omega, by first | omega | (rw [AB2]; simp only [B5, C1]; omega), hld.1, hld.2.1, by first | exact hld.2.2.1 | (have h9 := ok23.2; simp at h9; omega), by first | exact hld.2.2.2 | (have h9 := ok23.2; simp at h9; omega)⟩))
  ·intro h13
   have k13 := M0 h13; try simp only [A5] at k13
   refine A3 (A2 ?_)
   refine A1 rfl rfl rfl (N3 rfl (A0 rfl) C6) ?_
   refine C2 rfl rfl rfl rfl rfl ?_
   refine A4 ?_
   refine D0 (A0 rfl) ?_ ?_
   ·intro h19
    have k19 := M1 h19; try simp only [A5] at k19
    refine A2 ?_
    refine A6 rfl rfl rfl rfl rfl ?_
    refine A1 rfl rfl rfl (O1 rfl c0 C0 Tryz.zeroValue3 rfl rfl rfl rfl (E8 C6 (L9 _ _) (E8 C6 (L9 _ _) (E8 C6 (L9 _ _) I5))) rfl rfl) ?_
    refine I8 [0] rfl rfl rfl rfl Tryz.call129 rfl (s6 _ _ hcode _ ([(0), (100000), (100001)] : List Int) (by decide) (by omega)) (A7 (A0 rfl) (A7 (A0 rfl) D2)) rfl ?_
    intro x23 ok23
    refine A1 rfl rfl rfl (B3 2 rfl B6 rfl C0 (A0 rfl) rfl) ?_
    refine I3 1 rfl rfl rfl (A0 rfl) (A0 rfl) (L9 _ _) rfl C0 rfl ?_
    refine A4 (A3 (A2 ?_))
    refine A1 rfl rfl rfl (D9 1 rfl (A0 rfl) rfl G5 E0 rfl) ?_
    refine D3 4 rfl rfl rfl (A0 rfl) (A0 rfl) (D8 _) rfl E0 rfl ?_
    refine A4 ?_
    refine C8 ?_
    (refine K0 [0, 1, 1] ((x23.1, ⟨x5.2.1.Kind, x5.2.1.Txn, x23.2, x5.2.1.Lead, x5.2.1.Reads, x5.2.1.Writes, x5.2.1.Yes⟩, x5.2.2.1, x5.2.2.2)) ?_ rfl (by first | rfl | (unfold TRec.ow; dsimp only; rw [List.map_append]; rfl)) (P3 rfl (G3 (ys := _) 4 rfl rfl G5 E0 rfl)); (dsimp only [TRec.size]; exact ⟨by omega, by first | omega | (rw [AB2]; simp only [B5, C1]; omega), hld.1, hld.2.1, by first | exact hld.2.2.1 | (have h9 := ok23.2; simp at h9; omega), by first | exact hld.2.2.2 | (have h9 := ok23.2; simp at h9; omega)⟩))
   ·intro h19
    have k19 := M0 h19; try simp only [A5] at k19
    refine A3 (A2 ?_)
    refine A1 rfl rfl rfl (N3 rfl (A0 rfl) C6) ?_
    refine C2 rfl rfl rfl rfl rfl ?_
    refine A4 ?_
    refine D0 (A0 rfl) ?_ ?_
    ·intro h25
     have k25 := M1 h25; try simp only [A5] at k25
     refine A2 ?_
     refine A1 rfl rfl rfl (B3 4 rfl B6 rfl L8 (A0 rfl) rfl) ?_
     refine A1 rfl rfl rfl (B2 1 rfl (A0 rfl) rfl O4 rfl) ?_
     refine A1 rfl rfl rfl (O1 rfl E6 G0 Tryz.zeroValue9 rfl rfl rfl rfl (E8 (T5 (l := [97]) rfl) (Q9 _) I5) rfl rfl) ?_
     refine N6 (by' := 16) 2 rfl rfl rfl rfl E6 Tryz.type9 rfl rfl rfl rfl rfl rfl (A0 rfl) (A0 rfl) rfl (by simp only [A5, B0]; omega) ?_
     intro v30_1
     refine A1 rfl rfl rfl (B3 4 rfl B6 rfl L8 (A0 rfl) rfl) ?_
     refine R9 2 rfl fun one_v30_1 => ?_
     refine I3 1 rfl rfl rfl (A0 rfl) (A0 rfl) (S4 one_v30_1) rfl L8 rfl ?_
     refine A4 (A3 (A2 ?_))
     refine A1 rfl rfl rfl (D9 1 rfl (A0 rfl) rfl G5 E0 rfl) ?_
     refine D3 4 rfl rfl rfl (A0 rfl) (A0 rfl) (D8 _) rfl E0 rfl ?_
     refine A4 ?_
     refine C8 ?_
     (refine K0 [0, 1, 1] ((x7.1, ⟨x5.2.1.Kind, x5.2.1.Txn, x5.2.1.Time, x5.2.1.Lead, x5.2.1.Reads ++ [[97]], x5.2.1.Writes, x5.2.1.Yes⟩, v30_1, x5.2.2.2)) ?_ rfl (by first | rfl | (unfold TRec.ow; dsimp only; rw [List.map_append]; rfl)) (P3 rfl (G3 (ys := _) 4 rfl rfl G5 E0 rfl)); (dsimp only [TRec.size]; exact ⟨by omega, by first | omega | (rw [AB2]; simp only [B5, C1]; omega), hld.1, hld.2.1, by first | exact hld.2.2.1 | (have h9 := ok23.2; simp at h9; omega), by first | exact hld.2.2.2 | (have h9 := ok23.2; simp at h9; omega)⟩))
    ·intro h25
     have k25 := M0 h25; try simp only [A5] at k25
     refine D5 (A3 (A2 ?_))
     refine A1 rfl rfl rfl (D9 1 rfl (A0 rfl) rfl G5 E0 rfl) ?_
     refine D3 4 rfl rfl rfl (A0 rfl) (A0 rfl) (D8 _) rfl E0 rfl ?_
     refine A4 ?_
     refine C8 ?_
     (refine K0 [0, 1, 1] ((x7.1, x5.2.1, x5.2.2.1, x5.2.2.2)) ?_ rfl (by first | rfl | (unfold TRec.ow; dsimp only; rw [List.map_append]; rfl)) (P3 rfl (G3 (ys := _) 4 rfl rfl G5 E0 rfl)); (dsimp only [TRec.size]; exact ⟨by omega, by first | omega | (rw [AB2]; simp only [B5, C1]; omega), hld.1, hld.2.1, by first | exact hld.2.2.1 | (have h9 := ok23.2; simp at h9; omega), by first | exact hld.2.2.2 | (have h9 := ok23.2; simp at h9; omega)⟩))
end Go.Proofs.YtnlhbdkcgaeimaaGreat

set_option linter.unusedVariables false
set_option linter.unusedSimpArgs false
set_option maxRecDepth 100000
set_option maxHeartbeats 2000000
namespace Go.Proofs.YtnlhbdkcgaeimaaGreat
open Go Go.AV Go.M
attribute [local irreducible] OpW OpA OpS AWP FSpec ESpec GSpec OpE RetOk RetOkG RvDen Le Ev GuardIs SrcIs SrcE Int.tmod Int.tdiv IntKind.wrap bandI
theorem Aj5 (s : TState) (y : Value × Value) (hs : s.size ≤ 1048576) : GSpec Tryz.prog 107 [AV.agg (TState.ocs s y)] (TState.ow s y) (fun _ : Value × Value => True) (fun x => TState.ow s y ++ TState.ow s x) (fun x => AV.agg (TState.ocs s x)) := by
 obtain ⟨hs1, hs2, hs3, hs4, hs5⟩ := R8 hs
 refine J3 Tryz.func107 rfl Tryz.ntmps107 rfl ?_
 refine A3 (A2 ?_)
 refine M7 rfl rfl rfl rfl (A0 rfl) ?_
 intro b1
 refine F4 rfl rfl rfl rfl Tryz.zeroValue30 rfl ?_
 intro b2
 refine A4 (A3 ?_)
 refine M4 _ 11 (.pure 0 (.pure 1 (.pure 2 (.pure 3 (.pure 4 (.pure 6 (.pure 7 (.e2 5 (.e2 8 (.pure 9 (.e1 10 .nil)) 10 (.e1 8 (.pure 9 .nil))) 10 (.e1 5 (.e1 8 (.pure 9 .nil))))))))))) (by kernel_rfl) (by kernel_rfl) rfl k6 ?_
 refine G6 rfl rfl rfl (fun ext => B3 0 rfl B8 rfl C0 (A0 rfl) rfl) ?_
 refine G6 rfl rfl rfl (fun ext => B2 1 rfl (A0 rfl) rfl C5 rfl) ?_
 refine G6 rfl rfl rfl (fun ext => B3 1 rfl B8 rfl O6 (A0 rfl) rfl) ?_
 refine G6 rfl rfl rfl (fun ext => B2 1 rfl (A0 rfl) rfl Q5 rfl) ?_
 refine G6 rfl rfl rfl (fun ext => F1 rfl Tryz.call208 rfl (AU6 s.Cells (by omega)) (A7 (A0 rfl) D2)) ?_
 refine G6 rfl rfl rfl (fun ext => B3 3 rfl B8 rfl J1 (A0 rfl) rfl) ?_
 refine G6 rfl rfl rfl (fun ext => B2 1 rfl (A0 rfl) rfl N5 rfl) ?_
 refine AK9 ?_ ?_
 ·refine V0 rfl rfl rfl (c9 rfl E5 F9) (fun a _ => (by first | exact E9 rfl | exact E9 (List.append_assoc _ _ _) | exact H5)) ?_
  intro v11 _
  refine AK9 ?_ ?_
  ·refine V0 rfl rfl rfl (g6 4 (fun _ => rfl) (AH7 (by' := 24) 4 rfl E5 Tryz.type39 rfl rfl rfl rfl rfl rfl (A0 rfl) (AW8 3 rfl (A0 rfl)) rfl (by simp only [C1, A5]; omega))) (fun a _ => (by first | exact E9 rfl | exact E9 (List.append_assoc _ _ _) | exact H5)) ?_
   intro v14_1 hone_v14_1
   have one_v14_1 := hone_v14_1.2
   refine G6 rfl rfl rfl (fun ext => N2 (places := #[(0, 1), (1, 1), (2, 1), (3, 1)]) rfl B8 Tryz.zeroValue30 (fun w => by kernel_rfl) rfl (E8 (A0 rfl) (L9 _ _) (E8 (A0 rfl) (T4 _ _) (E8 (A0 rfl) (S4 one_v14_1) I5))) rfl) ?_
   refine S0 ?_
   refine V0 rfl rfl rfl (l0 rfl Tryz.zeroValue30 rfl) (fun a _ => (by first | exact E9 rfl | exact E9 (List.append_assoc _ _ _) | exact H5)) ?_
   intro b3 _
   refine S6 ?_
   refine D3 5 rfl rfl rfl (A0 rfl) (A0 rfl) (D8 _) rfl A8 rfl ?_
   refine A4 (A3 (A3 (A2 ?_)))
   refine A1 rfl rfl rfl (B3 2 rfl B8 rfl F0 (A0 rfl) rfl) ?_
   refine A1 rfl rfl rfl (B2 1 rfl (A0 rfl) rfl H1 rfl) ?_
   refine A1 rfl rfl rfl (V4 2 rfl C9 (A0 rfl) rfl) ?_
   refine A1 rfl rfl rfl (C7 rfl C6) ?_
   refine A4 (E1 ?_)
   refine Y7 45 5 ?_
   refine AWP.le (H7 [6, 0] rfl) ?_
   refine T8 [(2, _), (3, _), (17, _), (18, _)] _ (fun (i : Nat) (v : Value) => i ≤ s.Held.length) (fun (i : Nat) (v : Value) => [.box b3 30 [AV.int s.Floor, AV.list 2 (s.Cells.map TCell.cs), AV.is v, AV.is v14_1], .arr v 45 5 ((s.Held.take i).map THeld.cs)]) (fun (i : Nat) (v : Value) => [(19, AV.int i)]) (fun (i : Nat) (v : Value) => s.Held.length - i) (0) ((Value.slice none 0 0)) ?_ (U7 (by rfl) ⟨rfl, rfl, rfl, rfl, rfl, trivial⟩) ?_
   ·exact Nat.zero_le _
   intro i v hinv
   refine A3 (A2 ?_)
   refine A1 rfl rfl rfl (M2 rfl (A0 rfl) (A0 rfl)) ?_
   refine A4 (A3 ?_)
   refine D0 (A0 rfl) ?_ ?_
   ·intro h20
    have k20 := of_decide_eq_true h20; try simp only [A5] at k20
    have hlt : i < s.Held.length := by omega
    obtain ⟨h, hx⟩ := get_some hlt
    obtain ⟨g1, g2, g3, g4, g5⟩ := U8 hs2 hx
    have hrow : (s.Held.map THeld.cs)[((i : Nat) : Int).toNat]? = some h.cs := by (rw [Int.toNat_natCast, List.getElem?_map, hx]; rfl)
    refine D5 (A3 (E1 (A3 (A2 ?_))))
    refine A1 rfl rfl rfl (U3 4 rfl C9 D4 (A0 rfl) rfl (A0 rfl) (by omega) (by first | omega | (simp only [A5]; omega))) ?_
    refine A1 rfl rfl rfl (r9 4 rfl (A0 rfl) rfl I0 D4 hrow (by decide)) ?_
    refine F4 rfl rfl rfl rfl Tryz.zeroValue45 rfl ?_
    intro b5
    refine D3 0 rfl rfl rfl (A0 rfl) (A0 rfl) (D8 _) rfl D4 rfl ?_
    refine A4 ?_
    refine Q6 5 (by kernel_rfl) (by kernel_rfl) rfl ?_
    refine B4 rfl rfl (B3 2 rfl B8 rfl F0 (A0 rfl) rfl) ?_
    refine B4 rfl rfl (B2 1 rfl (A0 rfl) rfl H1 rfl) ?_
    refine B4 rfl rfl (D9 0 rfl (A0 rfl) rfl I0 D4 rfl) ?_
    refine B4 rfl rfl (F1 rfl Tryz.call106 rfl (f4 _ (by first | assumption | omega)) (A7 (A0 rfl) D2)) ?_
    refine B4 rfl rfl (O1 rfl C9 D4 Tryz.zeroValue45 rfl rfl rfl rfl (E8 (A0 rfl) (D8 _) I5) rfl rfl) ?_
    refine O5 ?_
    refine N6 (by' := 72) 2 rfl rfl rfl rfl C9 Tryz.type45 rfl rfl rfl rfl rfl rfl (A0 rfl) (A0 rfl) rfl (by simp only [A5, B1, B0]; omega) ?_
    intro v28_2
    refine A1 rfl rfl rfl (B3 2 rfl B8 rfl F0 (A0 rfl) rfl) ?_
    refine R9 2 rfl fun one_v28_2 => ?_
    refine I3 1 rfl rfl rfl (A0 rfl) (A0 rfl) (S4 one_v28_2) rfl F0 rfl ?_
    refine A4 (A2 ?_)
    refine A1 rfl rfl rfl (H4 rfl (A0 rfl) C6 (by first | omega | (simp only [A5, B1, B5, C1, B0, szR] at *; omega))) ?_
    refine A6 rfl rfl rfl rfl rfl ?_
    refine A4 ?_
    refine S3 i v (i + 1) (v28_2) ?_ ?_ (Le.trans (H7 [0, 0, 0] rfl) (P1 1 (by exact congrArg (fun z => Own.box b3 30 [AV.int s.Floor, AV.list 2 (s.Cells.map TCell.cs), AV.is v28_2, AV.is v14_1] :: Own.arr v28_2 45 5 z :: _) (W5 (f := THeld.cs) hx)) ⟨rfl, rfl, rfl, rfl, rfl, trivial⟩))
    ·omega
    ·omega
   ·intro h20
    have k20 := of_decide_eq_false h20; try simp only [A5] at k20
    have hge : i = s.Held.length := by omega
    rw [hge, List.take_length]
    refine I4 ?_
    refine A3 (A2 ?_)
    refine A1 rfl rfl rfl (D9 0 rfl (A0 rfl) rfl C4 A8 rfl) ?_
    refine D3 2 rfl rfl rfl (A0 rfl) (A0 rfl) (D8 _) rfl A8 rfl ?_
    refine A4 ?_
    refine C8 ?_
    exact K0 [4, 4, 1, 3] (v, v14_1) (trivial) rfl (by rfl) (P3 rfl (G3 (ys := _) 2 rfl rfl C4 A8 rfl))
  ·refine V0 rfl rfl rfl (l0 rfl Tryz.zeroValue30 rfl) (fun a _ => (by first | exact E9 rfl | exact E9 (List.append_assoc _ _ _) | exact H5)) ?_
   intro b3 _
   refine S0 ?_
   refine V0 rfl rfl rfl (g6 4 (fun _ => rfl) (AH7 (by' := 24) 4 rfl E5 Tryz.type39 rfl rfl rfl rfl rfl rfl (A0 rfl) (AW8 3 rfl (A0 rfl)) rfl (by simp only [C1, A5]; omega))) (fun a _ => (by first | exact E9 rfl | exact E9 (List.append_assoc _ _ _) | exact H5)) ?_
   intro v14_3 hone_v14_3
   have one_v14_3 := hone_v14_3.2
   refine G6 rfl rfl rfl (fun ext => N2 (places := #[(0, 1), (1, 1), (2, 1), (3, 1)]) rfl B8 Tryz.zeroValue30 (fun w => by kernel_rfl) rfl (E8 (A0 rfl) (L9 _ _) (E8 (A0 rfl) (T4 _ _) (E8 (A0 rfl) (S4 one_v14_3) I5))) rfl) ?_
   refine S6 ?_
   refine D3 5 rfl rfl rfl (A0 rfl) (A0 rfl) (D8 _) rfl A8 rfl ?_
   refine A4 (A3 (A3 (A2 ?_)))
   refine A1 rfl rfl rfl (B3 2 rfl B8 rfl F0 (A0 rfl) rfl) ?_
   refine A1 rfl rfl rfl (B2 1 rfl (A0 rfl) rfl H1 rfl) ?_
   refine A1 rfl rfl rfl (V4 2 rfl C9 (A0 rfl) rfl) ?_
   refine A1 rfl rfl rfl (C7 rfl C6) ?_
   refine A4 (E1 ?_)
   refine Y7 45 5 ?_
   refine AWP.le (H7 [6, 0] rfl) ?_
   refine T8 [(2, _), (3, _), (17, _), (18, _)] _ (fun (i : Nat) (v : Value) => i ≤ s.Held.length) (fun (i : Nat) (v : Value) => [.box b3 30 [AV.int s.Floor, AV.list 2 (s.Cells.map TCell.cs), AV.is v, AV.is v14_3], .arr v 45 5 ((s.Held.take i).map THeld.cs)]) (fun (i : Nat) (v : Value) => [(19, AV.int i)]) (fun (i : Nat) (v : Value) => s.Held.length - i) (0) ((Value.slice none 0 0)) ?_ (U7 (by rfl) ⟨rfl, rfl, rfl, rfl, rfl, trivial⟩) ?_
   ·exact Nat.zero_le _
   intro i v hinv
   refine A3 (A2 ?_)
   refine A1 rfl rfl rfl (M2 rfl (A0 rfl) (A0 rfl)) ?_
   refine A4 (A3 ?_)
   refine D0 (A0 rfl) ?_ ?_
   ·intro h20
    have k20 := of_decide_eq_true h20; try simp only [A5] at k20
    have hlt : i < s.Held.length := by omega
    obtain ⟨h, hx⟩ := get_some hlt
    obtain ⟨g1, g2, g3, g4, g5⟩ := U8 hs2 hx
    have hrow : (s.Held.map THeld.cs)[((i : Nat) : Int).toNat]? = some h.cs := by (rw [Int.toNat_natCast, List.getElem?_map, hx]; rfl)
    refine D5 (A3 (E1 (A3 (A2 ?_))))
    refine A1 rfl rfl rfl (U3 4 rfl C9 D4 (A0 rfl) rfl (A0 rfl) (by omega) (by first | omega | (simp only [A5]; omega))) ?_
    refine A1 rfl rfl rfl (r9 4 rfl (A0 rfl) rfl I0 D4 hrow (by decide)) ?_
    refine F4 rfl rfl rfl rfl Tryz.zeroValue45 rfl ?_
    intro b5
    refine D3 0 rfl rfl rfl (A0 rfl) (A0 rfl) (D8 _) rfl D4 rfl ?_
    refine A4 ?_
    refine Q6 5 (by kernel_rfl) (by kernel_rfl) rfl ?_
    refine B4 rfl rfl (B3 2 rfl B8 rfl F0 (A0 rfl) rfl) ?_
    refine B4 rfl rfl (B2 1 rfl (A0 rfl) rfl H1 rfl) ?_
    refine B4 rfl rfl (D9 0 rfl (A0 rfl) rfl I0 D4 rfl) ?_
    refine B4 rfl rfl (F1 rfl Tryz.call106 rfl (f4 _ (by first | assumption | omega)) (A7 (A0 rfl) D2)) ?_
    refine B4 rfl rfl (O1 rfl C9 D4 Tryz.zeroValue45 rfl rfl rfl rfl (E8 (A0 rfl) (D8 _) I5) rfl rfl) ?_
    refine O5 ?_
    refine N6 (by' := 72) 2 rfl rfl rfl rfl C9 Tryz.type45 rfl rfl rfl rfl rfl rfl (A0 rfl) (A0 rfl) rfl (by simp only [A5, B1, B0]; omega) ?_
    intro v28_4
    refine A1 rfl rfl rfl (B3 2 rfl B8 rfl F0 (A0 rfl) rfl) ?_
    refine R9 2 rfl fun one_v28_4 => ?_
    refine I3 1 rfl rfl rfl (A0 rfl) (A0 rfl) (S4 one_v28_4) rfl F0 rfl ?_
    refine A4 (A2 ?_)
    refine A1 rfl rfl rfl (H4 rfl (A0 rfl) C6 (by first | omega | (simp only [A5, B1, B5, C1, B0, szR] at *; omega))) ?_
    refine A6 rfl rfl rfl rfl rfl ?_
    refine A4 ?_
    refine S3 i v (i + 1) (v28_4) ?_ ?_ (Le.trans (H7 [0, 0, 0] rfl) (P1 1 (by exact congrArg (fun z => Own.box b3 30 [AV.int s.Floor, AV.list 2 (s.Cells.map TCell.cs), AV.is v28_4, AV.is v14_3] :: Own.arr v28_4 45 5 z :: _) (W5 (f := THeld.cs) hx)) ⟨rfl, rfl, rfl, rfl, rfl, trivial⟩))
    ·omega
    ·omega
   ·intro h20
    have k20 := of_decide_eq_false h20; try simp only [A5] at k20
    have hge : i = s.Held.length := by omega
    rw [hge, List.take_length]
    refine I4 ?_
    refine A3 (A2 ?_)
    refine A1 rfl rfl rfl (D9 0 rfl (A0 rfl) rfl C4 A8 rfl) ?_
    refine D3 2 rfl rfl rfl (A0 rfl) (A0 rfl) (D8 _) rfl A8 rfl ?_
    refine A4 ?_
    refine C8 ?_
    exact K0 [4, 4, 1, 3] (v, v14_3) (trivial) rfl (by rfl) (P3 rfl (G3 (ys := _) 2 rfl rfl C4 A8 rfl))
 ·refine V0 rfl rfl rfl (l0 rfl Tryz.zeroValue30 rfl) (fun a _ => (by first | exact E9 rfl | exact E9 (List.append_assoc _ _ _) | exact H5)) ?_
  intro b3 _
  refine S0 ?_
  refine V0 rfl rfl rfl (c9 rfl E5 F9) (fun a _ => (by first | exact E9 rfl | exact E9 (List.append_assoc _ _ _) | exact H5)) ?_
  intro v11 _
  refine S0 ?_
  refine V0 rfl rfl rfl (g6 5 (fun _ => rfl) (AH7 (by' := 24) 5 rfl E5 Tryz.type39 rfl rfl rfl rfl rfl rfl (A0 rfl) (AW8 3 rfl (A0 rfl)) rfl (by simp only [C1, A5]; omega))) (fun a _ => (by first | exact E9 rfl | exact E9 (List.append_assoc _ _ _) | exact H5)) ?_
  intro v14_5 hone_v14_5
  have one_v14_5 := hone_v14_5.2
  refine G6 rfl rfl rfl (fun ext => N2 (places := #[(0, 1), (1, 1), (2, 1), (3, 1)]) rfl B8 Tryz.zeroValue30 (fun w => by kernel_rfl) rfl (E8 (A0 rfl) (L9 _ _) (E8 (A0 rfl) (T4 _ _) (E8 (A0 rfl) (S4 one_v14_5) I5))) rfl) ?_
  refine S6 ?_
  refine D3 4 rfl rfl rfl (A0 rfl) (A0 rfl) (D8 _) rfl A8 rfl ?_
  refine A4 (A3 (A3 (A2 ?_)))
  refine A1 rfl rfl rfl (B3 2 rfl B8 rfl F0 (A0 rfl) rfl) ?_
  refine A1 rfl rfl rfl (B2 1 rfl (A0 rfl) rfl H1 rfl) ?_
  refine A1 rfl rfl rfl (V4 2 rfl C9 (A0 rfl) rfl) ?_
  refine A1 rfl rfl rfl (C7 rfl C6) ?_
  refine A4 (E1 ?_)
  refine Y7 45 5 ?_
  refine AWP.le (H7 [5, 0] rfl) ?_
  refine T8 [(2, _), (3, _), (17, _), (18, _)] _ (fun (i : Nat) (v : Value) => i ≤ s.Held.length) (fun (i : Nat) (v : Value) => [.box b3 30 [AV.int s.Floor, AV.list 2 (s.Cells.map TCell.cs), AV.is v, AV.is v14_5], .arr v 45 5 ((s.Held.take i).map THeld.cs)]) (fun (i : Nat) (v : Value) => [(19, AV.int i)]) (fun (i : Nat) (v : Value) => s.Held.length - i) (0) ((Value.slice none 0 0)) ?_ (U7 (by rfl) ⟨rfl, rfl, rfl, rfl, rfl, trivial⟩) ?_
  ·exact Nat.zero_le _
  intro i v hinv
  refine A3 (A2 ?_)
  refine A1 rfl rfl rfl (M2 rfl (A0 rfl) (A0 rfl)) ?_
  refine A4 (A3 ?_)
  refine D0 (A0 rfl) ?_ ?_
  ·intro h20
   have k20 := of_decide_eq_true h20; try simp only [A5] at k20
   have hlt : i < s.Held.length := by omega
   obtain ⟨h, hx⟩ := get_some hlt
   obtain ⟨g1, g2, g3, g4, g5⟩ := U8 hs2 hx
   have hrow : (s.Held.map THeld.cs)[((i : Nat) : Int).toNat]? = some h.cs := by (rw [Int.toNat_natCast, List.getElem?_map, hx]; rfl)
   refine D5 (A3 (E1 (A3 (A2 ?_))))
   refine A1 rfl rfl rfl (U3 4 rfl C9 D4 (A0 rfl) rfl (A0 rfl) (by omega) (by first | omega | (simp only [A5]; omega))) ?_
   refine A1 rfl rfl rfl (r9 4 rfl (A0 rfl) rfl I0 D4 hrow (by decide)) ?_
   refine F4 rfl rfl rfl rfl Tryz.zeroValue45 rfl ?_
   intro b5
   refine D3 0 rfl rfl rfl (A0 rfl) (A0 rfl) (D8 _) rfl D4 rfl ?_
   refine A4 ?_
   refine Q6 5 (by kernel_rfl) (by kernel_rfl) rfl ?_
   refine B4 rfl rfl (B3 2 rfl B8 rfl F0 (A0 rfl) rfl) ?_
   refine B4 rfl rfl (B2 1 rfl (A0 rfl) rfl H1 rfl) ?_
   refine B4 rfl rfl (D9 0 rfl (A0 rfl) rfl I0 D4 rfl) ?_
   refine B4 rfl rfl (F1 rfl Tryz.call106 rfl (f4 _ (by first | assumption | omega)) (A7 (A0 rfl) D2)) ?_
   refine B4 rfl rfl (O1 rfl C9 D4 Tryz.zeroValue45 rfl rfl rfl rfl (E8 (A0 rfl) (D8 _) I5) rfl rfl) ?_
   refine O5 ?_
   refine N6 (by' := 72) 2 rfl rfl rfl rfl C9 Tryz.type45 rfl rfl rfl rfl rfl rfl (A0 rfl) (A0 rfl) rfl (by simp only [A5, B1, B0]; omega) ?_
   intro v28_6
   refine A1 rfl rfl rfl (B3 2 rfl B8 rfl F0 (A0 rfl) rfl) ?_
   refine R9 2 rfl fun one_v28_6 => ?_
   refine I3 1 rfl rfl rfl (A0 rfl) (A0 rfl) (S4 one_v28_6) rfl F0 rfl ?_
   refine A4 (A2 ?_)
   refine A1 rfl rfl rfl (H4 rfl (A0 rfl) C6 (by first | omega | (simp only [A5, B1, B5, C1, B0, szR] at *; omega))) ?_
   refine A6 rfl rfl rfl rfl rfl ?_
   refine A4 ?_
   refine S3 i v (i + 1) (v28_6) ?_ ?_ (Le.trans (H7 [0, 0, 0] rfl) (P1 1 (by exact congrArg (fun z => Own.box b3 30 [AV.int s.Floor, AV.list 2 (s.Cells.map TCell.cs), AV.is v28_6, AV.is v14_5] :: Own.arr v28_6 45 5 z :: _) (W5 (f := THeld.cs) hx)) ⟨rfl, rfl, rfl, rfl, rfl, trivial⟩))
   ·omega
   ·omega
  ·intro h20
   have k20 := of_decide_eq_false h20; try simp only [A5] at k20
   have hge : i = s.Held.length := by omega
   rw [hge, List.take_length]
   refine I4 ?_
   refine A3 (A2 ?_)
   refine A1 rfl rfl rfl (D9 0 rfl (A0 rfl) rfl C4 A8 rfl) ?_
   refine D3 2 rfl rfl rfl (A0 rfl) (A0 rfl) (D8 _) rfl A8 rfl ?_
   refine A4 ?_
   refine C8 ?_
   exact K0 [4, 4, 1, 3] (v, v14_5) (trivial) rfl (by rfl) (P3 rfl (G3 (ys := _) 2 rfl rfl C4 A8 rfl))
theorem As1 (s : TState) (y : Value × Value) (n : Int) (hlen : s.Held.length ≤ 1048576) : GSpec Tryz.prog 105 [AV.agg (TState.ocs s y), AV.int n] (TState.ow s y) (fun _ : Unit => True) (fun _ => TState.ow s y) (fun _ => AV.tup [AV.agg (heldFO s.Held n).1.cs, AV.bool (heldFO s.Held n).2]) := by
 obtain ⟨he, hhe⟩ : ∃ he, heldFO s.Held n = he := ⟨_, rfl⟩
 rw [hhe]
 refine J3 Tryz.func105 rfl Tryz.ntmps105 rfl ?_
 refine A3 (A2 ?_)
 refine M7 rfl rfl rfl rfl (A0 rfl) ?_
 intro b2
 refine F4 rfl rfl rfl rfl Tryz.zeroValue45 rfl ?_
 intro b4
 refine A1 rfl rfl rfl (C3 rfl F5) ?_
 refine A4 (A3 (A3 (A2 ?_)))
 refine A1 rfl rfl rfl (B3 2 rfl B8 rfl F0 (A0 rfl) rfl) ?_
 refine A1 rfl rfl rfl (B2 1 rfl (A0 rfl) rfl H1 rfl) ?_
 refine A1 rfl rfl rfl (V4 2 rfl C9 (A0 rfl) rfl) ?_
 refine A1 rfl rfl rfl (C7 rfl C6) ?_
 refine A4 (E1 ?_)
 refine K1 [(1, _), (4, _), (9, _), (10, _)] _ (fun (i : Nat) => i ≤ s.Held.length ∧ ∀ j y, j < i → s.Held[j]? = some y → (y.Txn == n) = false) (fun (i : Nat) => []) (fun (i : Nat) => [(11, AV.int i)]) (fun (i : Nat) => s.Held.length - i) (0) ?_ (J9 ⟨rfl, rfl, rfl, rfl, rfl, trivial⟩) ?_
 ·exact ⟨Nat.zero_le _, fun j y hj => by omega⟩
 intro i hinv
 refine A3 (A2 ?_)
 refine A1 rfl rfl rfl (M2 rfl (A0 rfl) (A0 rfl)) ?_
 refine A4 (A3 ?_)
 refine D0 (A0 rfl) ?_ ?_
 ·intro h12
  have k12 := of_decide_eq_true h12; try simp only [A5] at k12
  have hlt : i < s.Held.length := by omega
  obtain ⟨x, hx⟩ := get_some hlt
  have hrow : (s.Held.map THeld.cs)[((i : Nat) : Int).toNat]? = some x.cs := by (rw [Int.toNat_natCast, List.getElem?_map, hx]; rfl)
  refine D5 (A3 (E1 (A3 (A2 ?_))))
  refine A1 rfl rfl rfl (U3 2 rfl C9 D4 (A0 rfl) rfl (A0 rfl) (by omega) (by first | omega | (simp only [A5]; omega))) ?_
  refine A1 rfl rfl rfl (r9 2 rfl (A0 rfl) rfl I0 D4 hrow (by decide)) ?_
  refine F4 rfl rfl rfl rfl Tryz.zeroValue45 rfl ?_
  intro b7
  refine D3 0 rfl rfl rfl (A0 rfl) (A0 rfl) (D8 _) rfl D4 rfl ?_
  refine A4 (A3 (A2 ?_))
  refine A1 rfl rfl rfl (B3 0 rfl E7 rfl C0 (A0 rfl) rfl) ?_
  refine A1 rfl rfl rfl (B2 0 rfl (A0 rfl) rfl C5 rfl) ?_
  refine A6 rfl rfl rfl rfl rfl ?_
  refine A1 rfl rfl rfl (N3 rfl (A0 rfl) (A0 rfl)) ?_
  refine A4 ?_
  refine D0 (A0 rfl) ?_ ?_
  ·intro h18
   have k18 := M1 h18; try simp only [A5] at k18
   have he9 : he = (x, true) := by (rw [← hhe]; unfold heldFO findH; rw [AD0 hx h18 hinv.2])
   rw [he9]
   refine A3 (A2 ?_)
   refine A1 rfl rfl rfl (D9 0 rfl (A0 rfl) rfl I0 D4 rfl) ?_
   refine D3 1 rfl rfl rfl (A0 rfl) (A0 rfl) (D8 _) rfl D4 rfl ?_
   refine A1 rfl rfl rfl (C3 rfl F5) ?_
   refine A4 ?_
   refine C8 ?_
   exact K0 [3, 3] () (trivial) rfl (by rfl) (Q3 rfl (by decide) (E4 (G3 (ys := _) 1 rfl rfl I0 D4 rfl) (E4 (D1 rfl (by rfl)) J6)))
  ·intro h18
   have k18 := M0 h18; try simp only [A5] at k18
   refine D5 (A2 ?_)
   refine A1 rfl rfl rfl (H4 rfl (A0 rfl) C6 (by first | omega | (simp only [A5, B1, B5, C1, B0, szR] at *; omega))) ?_
   refine A6 rfl rfl rfl rfl rfl ?_
   refine A4 ?_
   refine M3 i (i + 1) ?_ ?_ (U9 1 ⟨rfl, rfl, rfl, rfl, rfl, trivial⟩)
   ·exact ⟨by omega, fun j y hj hy => if hji : j < i then hinv.2 j y hji hy else (by have e : j = i := (by omega); subst e; rw [hx] at hy; injection hy with hy; subst hy; exact h18)⟩
   ·omega
 ·intro h12
  have k12 := of_decide_eq_false h12; try simp only [A5] at k12
  have hge : s.Held.length ≤ i := by omega
  have he9 : he = (zHeld, false) := by (rw [← hhe]; unfold heldFO findH; rw [AX0 fun j y hy => hinv.2 j y (Nat.lt_of_lt_of_le (List.getElem?_eq_some_iff.1 hy).1 hge) hy])
  rw [he9]
  refine I4 ?_
  refine A3 (A2 ?_)
  refine A1 rfl rfl rfl (N2 (places := #[(0, 1), (1, 1), (2, 1), (3, 1), (4, 1)]) rfl E7 Tryz.zeroValue45 (fun w => by kernel_rfl) rfl I5 rfl) ?_
  refine D3 0 rfl rfl rfl (A0 rfl) (A0 rfl) (D8 _) rfl D4 rfl ?_
  refine A1 rfl rfl rfl (C3 rfl F5) ?_
  refine A4 ?_
  refine C8 ?_
  refine U0 0 3 1 rfl rfl (U6 2 rfl rfl (U6 3 rfl rfl P6)) ?_
  refine U0 0 4 3 rfl rfl (U6 2 rfl rfl (U6 3 rfl rfl P6)) ?_
  exact K0 [2, 2] () (trivial) rfl (by rfl) (Q3 rfl (by decide) (E4 (G3 (ys := _) 0 rfl rfl I0 D4 rfl) (E4 (D1 rfl (by rfl)) J6)))
theorem Ay1 (s : TState) (y : Value × Value) (r : TRec) (g : SO s) (hs : s.size ≤ 300000) (hrs : r.size ≤ 300000) : GSpec Tryz.prog 103 [AV.agg (TState.ocs s y), AV.agg r.cs] (TState.ow s y) (fun _ : Value × Value => True) (fun x => TState.ow s y ++ TState.ow (applyS s r).1 x) (fun x => AV.tup [AV.agg (TState.ocs (applyS s r).1 x), AV.bool (applyS s r).2]) := by
 obtain ⟨hs1, hs2, hs3, hs4, hs5⟩ := R8 hs
 have hgc := g.cells
 have hgh := g.hsort
 have hgt := g.tsort
 have hr2 : r.size = sizeL (fun x : Str => x.length) r.Reads + sizeL TWrite.size r.Writes := rfl
 have hr3 := O8 (f := fun x : Str => x.length) (l := r.Reads)
 have hr4 := O8 (f := TWrite.size) (l := r.Writes)
 have hho := AG6 s.Held r.Txn
 have hto := Ah4 s.Told r.Txn
 obtain ⟨h, hh⟩ : ∃ h, (heldFO s.Held r.Txn).1 = h := ⟨_, rfl⟩
 have hf1 : hasH s.Held r.Txn = true → findH s.Held r.Txn = some h := fun e => by
  rw [← hho] at e
  unfold heldFO at hh e
  cases hf : findH s.Held r.Txn with
  | none => rw [hf] at e; cases e
  | some x => rw [hf] at hh; exact congrArg some hh
 have hf0 : hasH s.Held r.Txn = false → findH s.Held r.Txn = none := fun e => p3.2 e
 have hhs : hasH s.Held r.Txn = true → h.size ≤ 300000 ∧ 1 ≤ h.Time := fun e => by
  obtain ⟨h1, h2⟩ := m1 (hf1 e)
  obtain ⟨i, hi⟩ := List.getElem?_of_mem h1
  exact ⟨(U8 hs2 hi).1, g.times h h1⟩
 have hlen := AH8 s.Held r.Txn
 have hll : (lessH s.Held r.Txn).length ≤ s.Held.length := List.length_filter_le _ _
 refine J3 Tryz.func103 rfl Tryz.ntmps103 rfl ?_
 refine A3 (A2 ?_)
 refine M7 rfl rfl rfl rfl (A0 rfl) ?_
 intro b2
 refine M7 rfl rfl rfl rfl (A0 rfl) ?_
 intro b3
 refine F4 rfl rfl rfl rfl Tryz.zeroValue30 rfl ?_
 intro b4
 refine A1 rfl rfl rfl (C3 rfl F5) ?_
 refine A4 (A3 (A2 ?_))
 refine A1 rfl rfl rfl (D9 2 rfl (A0 rfl) rfl C4 A8 rfl) ?_
 refine I8 [3, 3] rfl rfl rfl rfl Tryz.call107 rfl (Aj5 s y (by omega)) (A7 (A0 rfl) D2) rfl ?_
 intro x14 ok14
 refine F4 rfl rfl rfl rfl Tryz.zeroValue30 rfl ?_
 intro b6
 refine D3 0 rfl rfl rfl (A0 rfl) (A0 rfl) (D8 _) rfl A8 rfl ?_
 refine A4 (A3 ?_)
 refine H9 (by first | (simp only [TState.ow, TState.ocs, pick, L5, L1, L2, K9, L3, List.nil_append, L6, L7, List.append_nil, L0, List.take_zero, L4, List.drop_zero]; exact rfl) | exact rfl) ?_
 refine A2 ?_
 refine A1 rfl rfl rfl (D9 7 rfl (A0 rfl) rfl C4 A8 rfl) ?_
 refine A1 rfl rfl rfl (B3 1 rfl B6 rfl C0 (A0 rfl) rfl) ?_
 refine A1 rfl rfl rfl (B2 6 rfl (A0 rfl) rfl C5 rfl) ?_
 refine I8 [1, 1] rfl rfl rfl rfl Tryz.call105 rfl (As1 s y r.Txn (by omega)) (A7 (A0 rfl) (A7 (A0 rfl) D2)) rfl ?_
 intro x19 ok19
 refine A6 rfl rfl rfl rfl rfl ?_
 refine A1 rfl rfl rfl (F6 rfl (A0 rfl) rfl) ?_
 refine A1 rfl rfl rfl (F6 rfl (A0 rfl) rfl) ?_
 refine F4 rfl rfl rfl rfl Tryz.zeroValue45 rfl ?_
 intro b7
 refine D3 0 rfl rfl rfl (A0 rfl) (A0 rfl) (D8 _) rfl D4 rfl ?_
 refine C2 rfl rfl rfl rfl rfl ?_
 refine A4 (A3 ?_)
 refine H9 (by first | (simp only [TState.ow, TState.ocs, pick, L5, L1, L2, K9, L3, List.nil_append, L6, L7, List.append_nil, L0, List.take_zero, L4, List.drop_zero]; exact rfl) | exact rfl) ?_
 refine A2 ?_
 refine A1 rfl rfl rfl (D9 8 rfl (A0 rfl) rfl C4 A8 rfl) ?_
 refine A1 rfl rfl rfl (B3 1 rfl B6 rfl C0 (A0 rfl) rfl) ?_
 refine A1 rfl rfl rfl (B2 7 rfl (A0 rfl) rfl C5 rfl) ?_
 refine A1 rfl rfl rfl (X0 rfl Tryz.call104 rfl (AF2 s r.Txn (by omega)) (a6 (E3 (a7 (E3 (G7 _ _) (E3 (H0 _) (E3 (G7 _ _) G8)))) (E3 (H0 _) G8))) (P2 (j7 (A0 rfl) (X8 (H6 N0 (H6 N0 (H6 (P0 (H2 (i := 1) rfl) K5) (H6 (P0 (H2 (i := 2) rfl) K5) U4)))))) (P2 (evb (A0 rfl)) V2))) ?_
 refine A6 rfl rfl rfl rfl rfl ?_
 refine A1 rfl rfl rfl (F6 rfl (A0 rfl) rfl) ?_
 refine A1 rfl rfl rfl (F6 rfl (A0 rfl) rfl) ?_
 refine F4 rfl rfl rfl rfl Tryz.zeroValue39 rfl ?_
 intro b9
 refine D3 0 rfl rfl rfl (A0 rfl) (A0 rfl) (D8 _) rfl F9 rfl ?_
 refine C2 rfl rfl rfl rfl rfl ?_
 refine A4 (A3 (E1 (A3 ?_)))
 rw [hh]
 rw [hho, hto]
 refine H9 (by first | (simp only [TState.ow, TState.ocs, pick, L5, L1, L2, K9, L3, List.nil_append, L6, L7, List.append_nil, L0, List.take_zero, L4, List.drop_zero]; exact rfl) | exact rfl) ?_
 refine A2 ?_
 refine A1 rfl rfl rfl (B3 0 rfl B6 rfl C0 (A0 rfl) rfl) ?_
 refine A1 rfl rfl rfl (B2 8 rfl (A0 rfl) rfl C5 rfl) ?_
 refine A1 rfl rfl rfl (N3 rfl (A0 rfl) C6) ?_
 refine C2 rfl rfl rfl rfl rfl ?_
 refine A4 ?_
 refine D0 (A0 rfl) ?_ ?_
 ·intro h29
  have k29 := M1 h29; try simp only [A5] at k29
  have hk : r.Kind = 4 := by simpa using h29
  have he : applyS s r = (⟨r.Time, s.Cells, s.Held, s.Told⟩, decide (s.Floor < r.Time)) := by (unfold applyS; rw [if_pos hk])
  rw [he]
  refine A3 ?_
  refine H9 (by first | (simp only [TState.ow, TState.ocs, pick, L5, L1, L2, K9, L3, List.nil_append, L6, L7, List.append_nil, L0, List.take_zero, L4, List.drop_zero]; exact rfl) | exact rfl) ?_
  refine A2 ?_
  refine A1 rfl rfl rfl (B3 2 rfl B6 rfl C0 (A0 rfl) rfl) ?_
  refine A1 rfl rfl rfl (B2 8 rfl (A0 rfl) rfl C5 rfl) ?_
  refine A1 rfl rfl rfl (B3 0 rfl B8 rfl C0 (A0 rfl) rfl) ?_
  refine I3 4 rfl rfl rfl (A0 rfl) (A0 rfl) (L9 _ _) rfl C0 rfl ?_
  refine A4 (A3 ?_)
  refine H9 (by first | (simp only [TState.ow, TState.ocs, pick, L5, L1, L2, K9, L3, List.nil_append, L6, L7, List.append_nil, L0, List.take_zero, L4, List.drop_zero]; exact rfl) | exact rfl) ?_
  refine AWP.le (H7 [4, 7, 7] rfl) ?_
  refine M4 _ 7 (.pure 0 (.pure 1 (.pure 2 (.pure 3 (.pure 4 (.pure 5 (.e1 6 .nil))))))) (by kernel_rfl) (by kernel_rfl) rfl (N8 3) ?_
  refine G6 rfl rfl rfl (fun ext => D9 0 rfl (A0 rfl) rfl C4 A8 rfl) ?_
  refine G6 rfl rfl rfl (fun ext => B3 2 rfl B6 rfl C0 (A0 rfl) rfl) ?_
  refine G6 rfl rfl rfl (fun ext => B2 1 rfl (A0 rfl) rfl C5 rfl) ?_
  refine G6 rfl rfl rfl (fun ext => B3 0 rfl B8 rfl C0 (A0 rfl) rfl) ?_
  refine G6 rfl rfl rfl (fun ext => B2 2 rfl (A0 rfl) rfl C5 rfl) ?_
  refine G6 rfl rfl rfl (fun ext => P4 rfl (A0 rfl) (A0 rfl)) ?_
  refine S0 ?_
  refine V3 rfl rfl rfl (Q1 9 rfl rfl (A0 rfl) (A0 rfl) (D8 _) rfl A8 rfl) (fun a _ => (by first | exact E9 rfl | exact E9 (List.append_assoc _ _ _) | exact H5)) ?_
  intro _ _
  refine S6 ?_
  refine C2 rfl rfl rfl rfl rfl ?_
  refine A4 ?_
  refine C8 ?_
  exact K0 [5, 5, 5, 5] (x14.1, x14.2) (trivial) rfl (by rfl) (Q3 rfl (by decide) (E4 (G3 (ys := _) 9 rfl rfl C4 A8 rfl) (E4 (D1 rfl (by rfl)) J6)))
 ·intro h29
  have k29 := M0 h29; try simp only [A5] at k29
  have hk4 : r.Kind ≠ 4 := by simpa using h29
  refine A3 (A2 ?_)
  refine A6 rfl rfl rfl rfl rfl ?_
  refine C2 rfl rfl rfl rfl rfl ?_
  refine A4 ?_
  refine D0 (A0 rfl) ?_ ?_
  ·intro h42
   have he : applyS s r = (s, false) := by (unfold applyS; rw [if_neg hk4, if_pos h42])
   rw [he]
   refine A3 (A2 ?_)
   refine A1 rfl rfl rfl (D9 4 rfl (A0 rfl) rfl C4 A8 rfl) ?_
   refine D3 7 rfl rfl rfl (A0 rfl) (A0 rfl) (D8 _) rfl A8 rfl ?_
   refine A1 rfl rfl rfl (C3 rfl F5) ?_
   refine A4 ?_
   refine C8 ?_
   exact K0 [2, 2, 3, 3] (x14.1, x14.2) (trivial) rfl (by rfl) (Q3 rfl (by decide) (E4 (G3 (ys := _) 7 rfl rfl C4 A8 rfl) (E4 (D1 rfl (by rfl)) J6)))
  ·intro h42
   have hT : hasT s.Told r.Txn = false := h42
   have hnT : ¬ hasT s.Told r.Txn = true := by (rw [hT]; decide)
   refine A3 (A2 ?_)
   refine A1 rfl rfl rfl (B3 0 rfl B6 rfl C0 (A0 rfl) rfl) ?_
   refine A1 rfl rfl rfl (B2 8 rfl (A0 rfl) rfl C5 rfl) ?_
   refine A1 rfl rfl rfl (N3 rfl (A0 rfl) C6) ?_
   refine C2 rfl rfl rfl rfl rfl ?_
   refine A4 ?_
   refine D0 (A0 rfl) ?_ ?_
   ·intro h45
    have k45 := M1 h45; try simp only [A5] at k45
    have hk1 : r.Kind = 1 := by simpa using h45
    have he : applyS s r = (⟨r.Time, s.Cells, insH (hOf r) s.Held, s.Told⟩, (!hasH s.Held r.Txn && decide (s.Floor < r.Time)) && fits s r.Reads r.Writes) := by (unfold applyS; rw [if_neg hk4, if_neg hnT, if_pos hk1])
    rw [he]
    refine A3 ?_
    refine AWP.le (v8 [5] 4 (.box b6 30 [AV.int s.Floor, AV.list 2 (s.Cells.map TCell.cs), AV.list 5 (s.Held.map THeld.cs), AV.is x14.2]) rfl rfl ⟨rfl, rfl, (H6 N0 (H6 N0 (H6 (P0 (H2 (i := 0) rfl) K5) (H6 N0 U4))))⟩ (U6 2 rfl rfl (U6 3 rfl rfl P6))) ?_
    refine H9 (by first | (simp only [TState.ow, TState.ocs, pick, L5, L1, L2, K9, L3, List.nil_append, L6, L7, List.append_nil, L0, List.take_zero, L4, List.drop_zero]; exact rfl) | exact rfl) ?_
    refine AWP.le (H7 [4, 6] rfl) ?_
    refine P5 _ [(0, false), (1, false), (2, false), (3, false), (4, false), (5, false), (6, false), (7, false), (8, false), (9, false), (10, false), (12, false), (13, false), (11, true), (14, true), (15, false), (16, true)] (by kernel_rfl) (by kernel_rfl) rfl (N8 2) ?_
    refine F2 rfl rfl rfl (fun ext => B3 2 rfl B8 rfl F0 (A0 rfl) rfl) ?_
    refine F2 rfl rfl rfl (fun ext => B2 0 rfl (A0 rfl) rfl H1 rfl) ?_
    refine F2 rfl rfl rfl (fun ext => B3 1 rfl B6 rfl C0 (A0 rfl) rfl) ?_
    refine F2 rfl rfl rfl (fun ext => B2 1 rfl (A0 rfl) rfl C5 rfl) ?_
    refine F2 rfl rfl rfl (fun ext => B3 2 rfl B6 rfl C0 (A0 rfl) rfl) ?_
    refine F2 rfl rfl rfl (fun ext => B2 1 rfl (A0 rfl) rfl C5 rfl) ?_
    refine F2 rfl rfl rfl (fun ext => B3 3 rfl B6 rfl C0 (A0 rfl) rfl) ?_
    refine F2 rfl rfl rfl (fun ext => B2 1 rfl (A0 rfl) rfl C5 rfl) ?_
    refine F2 rfl rfl rfl (fun ext => B3 4 rfl B6 rfl L8 (A0 rfl) rfl) ?_
    refine F2 rfl rfl rfl (fun ext => B2 1 rfl (A0 rfl) rfl O4 rfl) ?_
    refine F2 rfl rfl rfl (fun ext => F1 rfl Tryz.call169 rfl (AR2 _ (by omega)) (A7 (A0 rfl) D2)) ?_
    refine F2 rfl rfl rfl (fun ext => B3 5 rfl B6 rfl K6 (A0 rfl) rfl) ?_
    refine F2 rfl rfl rfl (fun ext => B2 1 rfl (A0 rfl) rfl M5 rfl) ?_
    refine T1 rfl rfl rfl (c9 rfl G1 I6) (fun a _ => (by first | exact E9 rfl | exact E9 (List.append_assoc _ _ _) | exact H5)) ?_
    intro v60 _
    refine T1 rfl rfl rfl (Ag9 [9] (fun _ => rfl) (fun _ => P0 (H2 (i := 0) rfl) K5) (fun _ => (U6 4 rfl rfl (U6 5 rfl rfl P6))) (Q7 (by' := 40) 9 rfl G1 Tryz.type77 rfl rfl rfl rfl rfl rfl (A0 rfl) (A0 rfl) rfl (by simp only [C1, A5]; omega))) (fun a _ => (by first | exact E9 rfl | exact E9 (List.append_assoc _ _ _) | exact H5)) ?_
    intro v63_1 _
    refine F2 rfl rfl rfl (fun ext => N2 (places := #[(0, 1), (1, 1), (2, 1), (3, 1), (4, 1)]) rfl E7 Tryz.zeroValue45 (fun w => by kernel_rfl) rfl (E8 (A0 rfl) (L9 _ _) (E8 (A0 rfl) (L9 _ _) (E8 (A0 rfl) (L9 _ _) (E8 (A0 rfl) (T4 _ _) (E8 (A0 rfl) (T4 _ _) I5))))) rfl) ?_
    refine T1 rfl rfl rfl (V8 [] rfl Tryz.call204 rfl (AU7 s.Held (hOf r) hgh (by omega)) (A7 (A0 rfl) (A7 (A0 rfl) D2)) rfl) (fun a _ => (by first | exact E9 rfl | exact E9 (List.append_assoc _ _ _) | exact H5)) ?_
    intro x65 ok65
    refine X1 ?_
    refine A1 rfl rfl rfl (B3 2 rfl B8 rfl F0 (A0 rfl) rfl) ?_
    refine R9 9 rfl fun one_x65 => ?_
    refine I3 0 rfl rfl rfl (A0 rfl) (A0 rfl) (S4 one_x65) rfl F0 rfl ?_
    refine A4 (A3 ?_)
    refine H9 (by first | (simp only [TState.ow, TState.ocs, pick, L5, L1, L2, K9, L3, List.nil_append, L6, L7, List.append_nil, L0, List.take_zero, L4, List.drop_zero]; exact rfl) | exact rfl) ?_
    refine A2 ?_
    refine A1 rfl rfl rfl (B3 2 rfl B6 rfl C0 (A0 rfl) rfl) ?_
    refine A1 rfl rfl rfl (B2 1 rfl (A0 rfl) rfl C5 rfl) ?_
    refine A1 rfl rfl rfl (B3 0 rfl B8 rfl C0 (A0 rfl) rfl) ?_
    refine I3 0 rfl rfl rfl (A0 rfl) (A0 rfl) (L9 _ _) rfl C0 rfl ?_
    refine A4 (A3 ?_)
    refine H9 (by first | (simp only [TState.ow, TState.ocs, pick, L5, L1, L2, K9, L3, List.nil_append, L6, L7, List.append_nil, L0, List.take_zero, L4, List.drop_zero]; exact rfl) | exact rfl) ?_
    refine AWP.le (H7 [0, 0, 6, 2, 2] rfl) ?_
    refine M4 _ 19 (.pure 0 (.pure 1 (.pure 2 (.pure 3 (.pure 4 (.pure 5 (.pure 6 (.pure 7 (.pure 8 (.pure 9 (.pure 10 (.pure 11 (.pure 12 (.pure 13 (.pure 14 (.pure 15 (.pure 16 (.pure 17 (.e1 18 .nil))))))))))))))))))) (by kernel_rfl) (by kernel_rfl) rfl (N8 5) ?_
    refine G6 rfl rfl rfl (fun ext => D9 0 rfl (A0 rfl) rfl C4 A8 rfl) ?_
    refine G6 rfl rfl rfl (fun ext => C7 rfl (A0 rfl)) ?_
    refine G6 rfl rfl rfl (fun ext => N1 rfl (A0 rfl)) ?_
    refine G6 rfl rfl rfl (fun ext => C7 rfl (A0 rfl)) ?_
    refine W8 rfl rfl (B9 rfl rfl rfl) (fun hc ext => B3 2 rfl B6 rfl C0 (A0 rfl) rfl) ?_
    refine W8 rfl rfl (B9 rfl rfl rfl) (fun hc ext => B2 1 rfl (A9 rfl hc) rfl C5 rfl) ?_
    refine W8 rfl rfl (B9 rfl rfl rfl) (fun hc ext => B3 0 rfl B8 rfl C0 (A0 rfl) rfl) ?_
    refine W8 rfl rfl (B9 rfl rfl rfl) (fun hc ext => B2 2 rfl (A9 rfl hc) rfl C5 rfl) ?_
    refine W8 rfl rfl (B9 rfl rfl rfl) (fun hc ext => P4 rfl (A9 rfl hc) (A9 rfl hc)) ?_
    refine G6 rfl rfl rfl (fun ext => H8 rfl (A0 rfl) (G2 rfl)) ?_
    refine G6 rfl rfl rfl (fun ext => C7 rfl (A0 rfl)) ?_
    refine W8 rfl rfl (B9 rfl rfl rfl) (fun hc ext => D9 2 rfl (A0 rfl) rfl C4 A8 rfl) ?_
    refine W8 rfl rfl (B9 rfl rfl rfl) (fun hc ext => B3 4 rfl B6 rfl L8 (A0 rfl) rfl) ?_
    refine W8 rfl rfl (B9 rfl rfl rfl) (fun hc ext => B2 1 rfl (A9 rfl hc) rfl O4 rfl) ?_
    refine W8 rfl rfl (B9 rfl rfl rfl) (fun hc ext => B3 5 rfl B6 rfl K6 (A0 rfl) rfl) ?_
    refine W8 rfl rfl (B9 rfl rfl rfl) (fun hc ext => B2 1 rfl (A9 rfl hc) rfl M5 rfl) ?_
    refine W8 rfl rfl (B9 rfl rfl rfl) (fun hc ext => X0 rfl Tryz.call126 rfl (Aa6 s r.Reads r.Writes (by omega) (by omega)) (H0 _) (P2 (j7 (A9 rfl hc) (X8 (H6 N0 (H6 N0 (H6 (P0 (H2 (i := 3) rfl) K5) (H6 (P0 (H2 (i := 4) rfl) K5) U4)))))) (P2 (evb (A9 rfl hc)) (P2 (evb (A9 rfl hc)) V2)))) ?_
    refine G6 rfl rfl rfl (fun ext => H8 rfl (A0 rfl) (G2 rfl)) ?_
    refine S0 ?_
    refine V3 rfl rfl rfl (Q1 8 rfl rfl (A0 rfl) (A0 rfl) (D8 _) rfl A8 rfl) (fun a _ => (by first | exact E9 rfl | exact E9 (List.append_assoc _ _ _) | exact H5)) ?_
    intro _ _
    refine S6 ?_
    refine C2 rfl rfl rfl rfl rfl ?_
    refine A4 ?_
    refine C8 ?_
    exact K0 [3, 3, 7, 5] (x65, x14.2) (trivial) rfl (by rfl) (Q3 rfl (by decide) (E4 (G3 (ys := _) 8 rfl rfl C4 A8 rfl) (E4 (D1 rfl (by rfl)) J6)))
   ·intro h45
    have k45 := M0 h45; try simp only [A5] at k45
    have hk1 : r.Kind ≠ 1 := by simpa using h45
    have hap : applyS s r = (if r.Yes = true then (match findH s.Held r.Txn with | none => (s, false) | some h => if r.Time < h.Time then (s, false) else if (putP s.Cells h.Writes r.Time).2 = true then (doneS s r (if s.Floor < r.Time then r.Time else s.Floor) (putP s.Cells h.Writes r.Time).1, true) else (s, false)) else (doneS s r s.Floor s.Cells, true)) := by (unfold applyS; rw [if_neg hk4, if_neg hnT, if_neg hk1]; rfl)
    refine A3 (A2 ?_)
    refine A1 rfl rfl rfl (B3 6 rfl B6 rfl J7 (A0 rfl) rfl) ?_
    refine A1 rfl rfl rfl (B2 8 rfl (A0 rfl) rfl K3 rfl) ?_
    refine C2 rfl rfl rfl rfl rfl ?_
    refine A4 ?_
    refine D0 (A0 rfl) ?_ ?_
    ·intro h88
     refine A3 (A3 (A2 ?_))
     refine A6 rfl rfl rfl rfl rfl ?_
     refine A1 rfl rfl rfl (N1 rfl (A0 rfl)) ?_
     refine A6 rfl rfl rfl rfl rfl ?_
     refine B7 rfl rfl (D6 rfl rfl rfl) (fun hc => B3 1 rfl E7 rfl C0 (A0 rfl) rfl) ?_
     refine B7 rfl rfl (D6 rfl rfl rfl) (fun hc => B2 1 rfl (A9 rfl hc) rfl C5 rfl) ?_
     refine B7 rfl rfl (D6 rfl rfl rfl) (fun hc => B3 2 rfl B6 rfl C0 (A0 rfl) rfl) ?_
     refine B7 rfl rfl (D6 rfl rfl rfl) (fun hc => B2 8 rfl (A9 rfl hc) rfl C5 rfl) ?_
     refine B7 rfl rfl (D6 rfl rfl rfl) (fun hc => P4 rfl (A9 rfl hc) (A9 rfl hc)) ?_
     refine A1 rfl rfl rfl (R4 rfl (A0 rfl) (G2 rfl)) ?_
     refine A4 ?_
     refine D0 (A0 rfl) ?_ ?_
     ·intro h99
      have he : applyS s r = (s, false) := by (rw [hap, if_pos h88]; cases e : hasH s.Held r.Txn with | false => (rw [hf0 e]) | true => (rw [hf1 e]; dsimp only; rw [if_pos (by rw [e] at h99; simpa using h99)]))
      rw [he]
      refine A3 ?_
      refine H9 (by first | (simp only [TState.ow, TState.ocs, pick, L5, L1, L2, K9, L3, List.nil_append, L6, L7, List.append_nil, L0, List.take_zero, L4, List.drop_zero]; exact rfl) | exact rfl) ?_
      refine A2 ?_
      refine A1 rfl rfl rfl (D9 4 rfl (A0 rfl) rfl C4 A8 rfl) ?_
      refine D3 7 rfl rfl rfl (A0 rfl) (A0 rfl) (D8 _) rfl A8 rfl ?_
      refine A1 rfl rfl rfl (C3 rfl F5) ?_
      refine A4 ?_
      refine C8 ?_
      exact K0 [2, 2, 3, 3] (x14.1, x14.2) (trivial) rfl (by rfl) (Q3 rfl (by decide) (E4 (G3 (ys := _) 7 rfl rfl C4 A8 rfl) (E4 (D1 rfl (by rfl)) J6)))
     ·intro h99
      simp only [Bool.or_eq_false_iff, Bool.not_eq_false', decide_eq_false_iff_not] at h99
      obtain ⟨hhas, hnlt⟩ := h99
      obtain ⟨hz1, hz2⟩ := hhs hhas
      have hz3 : h.size = sizeL (fun x => x.length) h.Reads + sizeL TWrite.size h.Writes := rfl
      refine D5 (A3 ?_)
      refine H9 (by first | (simp only [TState.ow, TState.ocs, pick, L5, L1, L2, K9, L3, List.nil_append, L6, L7, List.append_nil, L0, List.take_zero, L4, List.drop_zero]; exact rfl) | exact rfl) ?_
      refine A2 ?_
      refine A1 rfl rfl rfl (B3 1 rfl B8 rfl O6 (A0 rfl) rfl) ?_
      refine A1 rfl rfl rfl (B2 9 rfl (A0 rfl) rfl Q5 rfl) ?_
      refine A1 rfl rfl rfl (B3 4 rfl E7 rfl K6 (A0 rfl) rfl) ?_
      refine A1 rfl rfl rfl (B2 1 rfl (A0 rfl) rfl M5 rfl) ?_
      refine A1 rfl rfl rfl (B3 2 rfl B6 rfl C0 (A0 rfl) rfl) ?_
      refine A1 rfl rfl rfl (B2 8 rfl (A0 rfl) rfl C5 rfl) ?_
      refine A1 rfl rfl rfl (F1 rfl Tryz.call205 rfl (AU8 s.Cells h.Writes r.Time hgc (by omega) (by omega) (by omega)) (A7 (A0 rfl) (A7 (A0 rfl) (A7 (A0 rfl) D2)))) ?_
      refine A6 rfl rfl rfl rfl rfl ?_
      refine A1 rfl rfl rfl (F6 rfl (A0 rfl) rfl) ?_
      refine A1 rfl rfl rfl (F6 rfl (A0 rfl) rfl) ?_
      refine C2 rfl rfl rfl rfl rfl ?_
      refine C2 rfl rfl rfl rfl rfl ?_
      refine A4 (A3 (A3 (A2 ?_)))
      refine A6 rfl rfl rfl rfl rfl ?_
      refine A1 rfl rfl rfl (N1 rfl (A0 rfl)) ?_
      refine A4 ?_
      refine D0 (A0 rfl) ?_ ?_
      ·intro h112
       have he : applyS s r = (s, false) := by (rw [hap, if_pos h88, hf1 hhas]; dsimp only; rw [if_neg (by omega), if_neg (by simpa using h112)])
       rw [he]
       refine A3 (A2 ?_)
       refine A1 rfl rfl rfl (D9 4 rfl (A0 rfl) rfl C4 A8 rfl) ?_
       refine D3 7 rfl rfl rfl (A0 rfl) (A0 rfl) (D8 _) rfl A8 rfl ?_
       refine A1 rfl rfl rfl (C3 rfl F5) ?_
       refine A4 ?_
       refine C8 ?_
       exact K0 [2, 2, 3, 3] (x14.1, x14.2) (trivial) rfl (by rfl) (Q3 rfl (by decide) (E4 (G3 (ys := _) 7 rfl rfl C4 A8 rfl) (E4 (D1 rfl (by rfl)) J6)))
      ·intro h112
       have he : applyS s r = (doneS s r (if s.Floor < r.Time then r.Time else s.Floor) (putP s.Cells h.Writes r.Time).1, true) := by (rw [hap, if_pos h88, hf1 hhas]; dsimp only; rw [if_neg (by omega), if_pos (by simpa using h112)])
       rw [he]
       unfold doneS
       refine D5 (A3 ?_)
       refine H9 (by first | (simp only [TState.ow, TState.ocs, pick, L5, L1, L2, K9, L3, List.nil_append, L6, L7, List.append_nil, L0, List.take_zero, L4, List.drop_zero]; exact rfl) | exact rfl) ?_
       refine A2 ?_
       refine A6 rfl rfl rfl rfl rfl ?_
       refine A1 rfl rfl rfl (B3 1 rfl B8 rfl O6 (A0 rfl) rfl) ?_
       refine I3 4 rfl rfl rfl (A0 rfl) (A0 rfl) (T4 _ _) rfl O6 rfl ?_
       refine A4 ?_
       refine H9 (by first | (simp only [TState.ow, TState.ocs, pick, L5, L1, L2, K9, L3, List.nil_append, L6, L7, List.append_nil, L0, List.take_zero, L4, List.drop_zero]; exact rfl) | exact rfl) ?_
       refine A2 ?_
       refine A1 rfl rfl rfl (B3 0 rfl B8 rfl C0 (A0 rfl) rfl) ?_
       refine A1 rfl rfl rfl (B2 9 rfl (A0 rfl) rfl C5 rfl) ?_
       refine A1 rfl rfl rfl (B3 2 rfl B6 rfl C0 (A0 rfl) rfl) ?_
       refine A1 rfl rfl rfl (B2 8 rfl (A0 rfl) rfl C5 rfl) ?_
       refine A1 rfl rfl rfl (F1 rfl Tryz.call130 rfl (AR3 _ _) (A7 (A0 rfl) (A7 (A0 rfl) D2))) ?_
       refine A1 rfl rfl rfl (B3 0 rfl B8 rfl C0 (A0 rfl) rfl) ?_
       refine I3 4 rfl rfl rfl (A0 rfl) (A0 rfl) (L9 _ _) rfl C0 rfl ?_
       refine A4 (A3 ?_)
       refine AWP.le (v8 [5, 5] 4 (.box b6 30 [_, _, AV.list 5 (s.Held.map THeld.cs), AV.list 3 (s.Told.map TTold.cs)]) rfl rfl ⟨rfl, rfl, (H6 N0 (H6 N0 (H6 (P0 (H2 (i := 0) rfl) K5) (H6 (P0 (H2 (i := 1) rfl) K5) U4))))⟩ (U6 2 rfl rfl (U6 3 rfl rfl P6))) ?_
       refine H9 (by first | (simp only [TState.ow, TState.ocs, pick, L5, L1, L2, K9, L3, List.nil_append, L6, L7, List.append_nil, L0, List.take_zero, L4, List.drop_zero]; exact rfl) | exact rfl) ?_
       refine A2 ?_
       refine A1 rfl rfl rfl (B3 2 rfl B8 rfl F0 (A0 rfl) rfl) ?_
       refine A1 rfl rfl rfl (B2 4 rfl (A0 rfl) rfl H1 rfl) ?_
       refine A1 rfl rfl rfl (B3 1 rfl B6 rfl C0 (A0 rfl) rfl) ?_
       refine A1 rfl rfl rfl (B2 6 rfl (A0 rfl) rfl C5 rfl) ?_
       refine I8 [] rfl rfl rfl rfl Tryz.call206 rfl (AX1 s.Held r.Txn (by omega)) (A7 (A0 rfl) (A7 (A0 rfl) D2)) rfl ?_
       intro x126 ok126
       refine A1 rfl rfl rfl (B3 2 rfl B8 rfl F0 (A0 rfl) rfl) ?_
       refine R9 0 rfl fun one_x126 => ?_
       refine I3 5 rfl rfl rfl (A0 rfl) (A0 rfl) (S4 one_x126) rfl F0 rfl ?_
       refine A4 (A3 ?_)
       refine H9 (by first | (simp only [TState.ow, TState.ocs, pick, L5, L1, L2, K9, L3, List.nil_append, L6, L7, List.append_nil, L0, List.take_zero, L4, List.drop_zero]; exact rfl) | exact rfl) ?_
       refine A2 ?_
       refine A1 rfl rfl rfl (B3 3 rfl B8 rfl J1 (A0 rfl) rfl) ?_
       refine A1 rfl rfl rfl (B2 5 rfl (A0 rfl) rfl N5 rfl) ?_
       refine A1 rfl rfl rfl (B3 1 rfl B6 rfl C0 (A0 rfl) rfl) ?_
       refine A1 rfl rfl rfl (B2 7 rfl (A0 rfl) rfl C5 rfl) ?_
       refine A1 rfl rfl rfl (B3 6 rfl B6 rfl J7 (A0 rfl) rfl) ?_
       refine A1 rfl rfl rfl (B2 7 rfl (A0 rfl) rfl K3 rfl) ?_
       refine A1 rfl rfl rfl (B3 2 rfl B6 rfl C0 (A0 rfl) rfl) ?_
       refine A1 rfl rfl rfl (B2 7 rfl (A0 rfl) rfl C5 rfl) ?_
       refine A1 rfl rfl rfl (N2 (places := #[(0, 1), (1, 1), (2, 1)]) rfl I9 Tryz.zeroValue39 (fun w => by kernel_rfl) rfl (E8 (A0 rfl) (L9 _ _) (E8 (A0 rfl) (W1 _) (E8 (A0 rfl) (L9 _ _) I5))) rfl) ?_
       refine I8 [] rfl rfl rfl rfl Tryz.call207 rfl (AH9 s.Told ⟨r.Txn, r.Yes, r.Time⟩ hgt (by omega)) (A7 (A0 rfl) (A7 (A0 rfl) D2)) rfl ?_
       intro x137 ok137
       refine A1 rfl rfl rfl (B3 3 rfl B8 rfl J1 (A0 rfl) rfl) ?_
       refine R9 0 rfl fun one_x137 => ?_
       refine I3 6 rfl rfl rfl (A0 rfl) (A0 rfl) (S4 one_x137) rfl J1 rfl ?_
       refine A4 (A3 ?_)
       refine H9 (by first | (simp only [TState.ow, TState.ocs, pick, L5, L1, L2, K9, L3, List.nil_append, L6, L7, List.append_nil, L0, List.take_zero, L4, List.drop_zero]; exact rfl) | exact rfl) ?_
       refine A2 ?_
       refine A1 rfl rfl rfl (D9 6 rfl (A0 rfl) rfl C4 A8 rfl) ?_
       refine D3 7 rfl rfl rfl (A0 rfl) (A0 rfl) (D8 _) rfl A8 rfl ?_
       refine A1 rfl rfl rfl (C3 rfl F5) ?_
       refine A4 ?_
       refine C8 ?_
       exact K0 [4, 4, 1, 0] (x126, x137) (trivial) rfl (by rfl) (Q3 rfl (by decide) (E4 (G3 (ys := _) 7 rfl rfl C4 A8 rfl) (E4 (D1 rfl (by rfl)) J6)))
    ·intro h88
     have he : applyS s r = (doneS s r s.Floor s.Cells, true) := by (rw [hap, if_neg (by rw [h88]; decide)])
     rw [he]
     unfold doneS
     refine D5 (A3 ?_)
     refine AWP.le (v8 [5, 5] 4 (.box b6 30 [_, _, AV.list 5 (s.Held.map THeld.cs), AV.list 3 (s.Told.map TTold.cs)]) rfl rfl ⟨rfl, rfl, (H6 N0 (H6 N0 (H6 (P0 (H2 (i := 0) rfl) K5) (H6 (P0 (H2 (i := 1) rfl) K5) U4))))⟩ (U6 2 rfl rfl (U6 3 rfl rfl P6))) ?_
     refine H9 (by first | (simp only [TState.ow, TState.ocs, pick, L5, L1, L2, K9, L3, List.nil_append, L6, L7, List.append_nil, L0, List.take_zero, L4, List.drop_zero]; exact rfl) | exact rfl) ?_
     refine A2 ?_
     refine A1 rfl rfl rfl (B3 2 rfl B8 rfl F0 (A0 rfl) rfl) ?_
     refine A1 rfl rfl rfl (B2 4 rfl (A0 rfl) rfl H1 rfl) ?_
     refine A1 rfl rfl rfl (B3 1 rfl B6 rfl C0 (A0 rfl) rfl) ?_
     refine A1 rfl rfl rfl (B2 6 rfl (A0 rfl) rfl C5 rfl) ?_
     refine I8 [] rfl rfl rfl rfl Tryz.call206 rfl (AX1 s.Held r.Txn (by omega)) (A7 (A0 rfl) (A7 (A0 rfl) D2)) rfl ?_
     intro x126 ok126
     refine A1 rfl rfl rfl (B3 2 rfl B8 rfl F0 (A0 rfl) rfl) ?_
     refine R9 0 rfl fun one_x126 => ?_
     refine I3 5 rfl rfl rfl (A0 rfl) (A0 rfl) (S4 one_x126) rfl F0 rfl ?_
     refine A4 (A3 ?_)
     refine H9 (by first | (simp only [TState.ow, TState.ocs, pick, L5, L1, L2, K9, L3, List.nil_append, L6, L7, List.append_nil, L0, List.take_zero, L4, List.drop_zero]; exact rfl) | exact rfl) ?_
     refine A2 ?_
     refine A1 rfl rfl rfl (B3 3 rfl B8 rfl J1 (A0 rfl) rfl) ?_
     refine A1 rfl rfl rfl (B2 5 rfl (A0 rfl) rfl N5 rfl) ?_
     refine A1 rfl rfl rfl (B3 1 rfl B6 rfl C0 (A0 rfl) rfl) ?_
     refine A1 rfl rfl rfl (B2 7 rfl (A0 rfl) rfl C5 rfl) ?_
     refine A1 rfl rfl rfl (B3 6 rfl B6 rfl J7 (A0 rfl) rfl) ?_
     refine A1 rfl rfl rfl (B2 7 rfl (A0 rfl) rfl K3 rfl) ?_
     refine A1 rfl rfl rfl (B3 2 rfl B6 rfl C0 (A0 rfl) rfl) ?_
     refine A1 rfl rfl rfl (B2 7 rfl (A0 rfl) rfl C5 rfl) ?_
     refine A1 rfl rfl rfl (N2 (places := #[(0, 1), (1, 1), (2, 1)]) rfl I9 Tryz.zeroValue39 (fun w => by kernel_rfl) rfl (E8 (A0 rfl) (L9 _ _) (E8 (A0 rfl) (W1 _) (E8 (A0 rfl) (L9 _ _) I5))) rfl) ?_
     refine I8 [] rfl rfl rfl rfl Tryz.call207 rfl (AH9 s.Told ⟨r.Txn, r.Yes, r.Time⟩ hgt (by omega)) (A7 (A0 rfl) (A7 (A0 rfl) D2)) rfl ?_
     intro x137 ok137
     refine A1 rfl rfl rfl (B3 3 rfl B8 rfl J1 (A0 rfl) rfl) ?_
     refine R9 0 rfl fun one_x137 => ?_
     refine I3 6 rfl rfl rfl (A0 rfl) (A0 rfl) (S4 one_x137) rfl J1 rfl ?_
     refine A4 (A3 ?_)
     refine H9 (by first | (simp only [TState.ow, TState.ocs, pick, L5, L1, L2, K9, L3, List.nil_append, L6, L7, List.append_nil, L0, List.take_zero, L4, List.drop_zero]; exact rfl) | exact rfl) ?_
     refine A2 ?_
     refine A1 rfl rfl rfl (D9 6 rfl (A0 rfl) rfl C4 A8 rfl) ?_
     refine D3 7 rfl rfl rfl (A0 rfl) (A0 rfl) (D8 _) rfl A8 rfl ?_
     refine A1 rfl rfl rfl (C3 rfl F5) ?_
     refine A4 ?_
     refine C8 ?_
     exact K0 [4, 4, 1, 0] (x126, x137) (trivial) rfl (by rfl) (Q3 rfl (by decide) (E4 (G3 (ys := _) 7 rfl rfl C4 A8 rfl) (E4 (D1 rfl (by rfl)) J6)))
end Go.Proofs.YtnlhbdkcgaeimaaGreat

set_option linter.unusedVariables false
set_option linter.unusedSimpArgs false
set_option maxRecDepth 100000
set_option maxHeartbeats 2000000
namespace Go.M
open Go.AV
structure SB (m : Int) (s : TState) : Prop where
  floor : 0 ≤ s.Floor ∧ s.Floor ≤ m
  leads : ∀ h ∈ s.Held, 0 ≤ h.Lead ∧ h.Lead ≤ 3
theorem sb_apply {m : Int} {s : TState} (g : SB m s) {r : TRec} (h1 : r.Time ≤ m) (h2 : 0 ≤ r.Lead ∧ r.Lead ≤ 3) (h : (applyS s r).2 = true) : SB m (applyS s r).1 := by
  obtain ⟨g1, g2⟩ := g
  have hless : ∀ h ∈ lessH s.Held r.Txn, 0 ≤ h.Lead ∧ h.Lead ≤ 3 := fun k hk => g2 k (g9.1 hk).1
  unfold applyS at h ⊢
  by_cases h4 : r.Kind = 4
  · rw [if_pos h4] at h ⊢
    have := of_decide_eq_true h
    exact ⟨⟨by dsimp only; omega, h1⟩, g2⟩
  · rw [if_neg h4] at h ⊢
    by_cases hT : hasT s.Told r.Txn = true
    · rw [if_pos hT] at h; cases h
    · rw [if_neg hT] at h ⊢
      by_cases hk : r.Kind = 1
      · rw [if_pos hk] at h ⊢
        simp only [Bool.and_eq_true, Bool.not_eq_true', decide_eq_true_eq] at h
        refine ⟨⟨by dsimp only; omega, h1⟩, fun k hm => ?_⟩
        rcases m0.1 hm with rfl | hm
        · exact h2
        · exact g2 k hm
      · rw [if_neg hk] at h ⊢
        by_cases hy : r.Yes = true
        · rw [if_pos hy] at h ⊢
          cases hf : findH s.Held r.Txn with
          | none => rw [hf] at h; cases h
          | some k =>
            rw [hf] at h
            dsimp only at h ⊢
            by_cases hlt : r.Time < k.Time
            · rw [if_pos hlt] at h; cases h
            · rw [if_neg hlt] at h ⊢
              by_cases hp : (putP s.Cells k.Writes r.Time).2 = true
              · rw [if_pos hp]; exact ⟨by unfold doneS; dsimp only; split <;> omega, hless⟩
              · rw [if_neg hp] at h; cases h
        · rw [if_neg hy]; exact ⟨g1, hless⟩
theorem sb_step {m : Int} {s : TState} (g : SB m s) {r : TRec} (h1 : r.Time ≤ m) (h2 : 0 ≤ r.Lead ∧ r.Lead ≤ 3) : SB m (stepS s r) := by
  unfold stepS
  split
  · exact sb_apply g h1 h2 ‹_›
  · exact g
theorem Au6 {m : Int} : ∀ {l : List TRec} {s : TState}, SB m s → (∀ r ∈ l, r.Time ≤ m ∧ 0 ≤ r.Lead ∧ r.Lead ≤ 3) → SB m (stFrom s l)
  | [], s, g, _ => g
  | r :: l, s, g, h => by
    show SB m (stFrom (stepS s r) l)
    exact Au6 (sb_step g (h r List.mem_cons_self).1 (h r List.mem_cons_self).2) fun x hx => h x (List.mem_cons_of_mem _ hx)
theorem st_phi {l : List TRec} (hl : l.length ≤ 11) (h : ∀ r ∈ l, r.size ≤ 1000) : phi (stFrom zState l) ≤ 33044 := by
  have h2 := w5 (m := 1000) (s := zState) (l := l) h
  have h3 : phi zState = 0 := rfl
  have h5 : l.length * (3 * (1 + 1000) + 1) ≤ 11 * 3004 := Nat.mul_le_mul hl (by decide)
  omega
end Go.M
namespace Go.Proofs.YtnlhbdkcgaeimaaGreat
open Go Go.AV Go.M
attribute [local irreducible] OpW OpA OpS AWP FSpec ESpec GSpec OpE RetOk RetOkG RvDen Le Ev GuardIs SrcIs SrcE Int.tmod Int.tdiv IntKind.wrap bandI
theorem ofK_own (l : List TRec) (hl : l.length ≤ 60) (hr : ∀ r ∈ l, r.size ≤ 1100) : GSpec Tryz.prog 86 [AV.list 7 (l.map TRec.cs)] [] (fun _ : Value × Value × Value => True) (fun x => TState.ow (stFrom zState l) (x.1, x.2.1) ++ [.arr x.2.2 4 1 ((didFrom zState l).map fun b => [AV.bool b])]) (fun x => AV.tup [AV.agg (TState.ocs (stFrom zState l) (x.1, x.2.1)), AV.is x.2.2]) := by
 have hgs : ∀ i, SO (stFrom zState (l.take i)) := fun i => AS8 Ad3
 have hsz : ∀ i, (stFrom zState (l.take i)).size ≤ 300000 := fun i => by
  have h1 := w4 (stFrom zState (l.take i))
  have h2 := w5 (m := 1100) (s := zState) (l := l.take i) fun r hr2 => hr r (List.mem_of_mem_take hr2)
  have h3 : phi zState = 0 := rfl
  have h4 : (l.take i).length ≤ 60 := by rw [B1]; omega
  have h5 : (l.take i).length * (3 * (1 + 1100) + 1) ≤ 60 * 3304 := Nat.mul_le_mul h4 (by decide)
  omega
 refine J3 Tryz.func86 rfl Tryz.ntmps86 rfl ?_
 refine A3 (A2 ?_)
 refine F4 rfl rfl rfl rfl Tryz.zeroValue30 rfl ?_
 intro b2
 refine A1 rfl rfl rfl (C3 rfl M6) ?_
 refine A4 (A3 (A2 ?_))
 refine F4 rfl rfl rfl rfl Tryz.zeroValue30 rfl ?_
 intro b4
 refine A4 (A3 (A2 ?_))
 refine S1 4 1 rfl rfl rfl rfl M6 ?_
 intro v5
 refine A4 (A3 (A3 ?_))
 refine AWP.le (m2 1 1 2 rfl rfl P6) ?_
 refine A2 ?_
 refine A6 rfl rfl rfl rfl rfl ?_
 refine A1 rfl rfl rfl (G4 rfl K2 (A0 rfl)) ?_
 refine A1 rfl rfl rfl (C7 rfl C6) ?_
 refine A4 (E1 ?_)
 refine Y7 45 5 ?_
 refine Y7 39 3 ?_
 refine AWP.le (H7 [3, 1, 0, 0] rfl) ?_
 refine p6 [(2, _), (3, _), (4, _), (10, _), (11, _)] _ (fun (i : Nat) (y : Value × Value) (v : Value) (bs : List Bool) => i ≤ l.length ∧ bs = didFrom zState (l.take i) ∧ bs.length ≤ i) (fun (i : Nat) (y : Value × Value) (v : Value) (bs : List Bool) => [.box b4 30 (TState.ocs (stFrom zState (l.take i)) y), .arr y.1 45 5 ((stFrom zState (l.take i)).Held.map THeld.cs), .arr y.2 39 3 ((stFrom zState (l.take i)).Told.map TTold.cs), .arr v 4 1 (bs.map fun b => [AV.bool b])]) (fun (i : Nat) (y : Value × Value) (v : Value) (bs : List Bool) => [(5, AV.is v), (12, AV.int i)]) (fun (i : Nat) (y : Value × Value) (v : Value) (bs : List Bool) => l.length - i) (0) (((Value.slice none 0 0), (Value.slice none 0 0))) (v5) ([]) ?_ (U7 (by rfl) ⟨rfl, rfl, rfl, rfl, rfl, rfl, rfl, trivial⟩) ?_
 ·exact ⟨Nat.zero_le _, rfl, Nat.le_refl _⟩
 intro i y v bs hinv
 refine A3 (A2 ?_)
 refine A1 rfl rfl rfl (M2 rfl (A0 rfl) (A0 rfl)) ?_
 refine A4 (A3 ?_)
 refine D0 (A0 rfl) ?_ ?_
 ·intro h13
  have k13 := of_decide_eq_true h13; try simp only [A5] at k13
  have hlt : i < l.length := by omega
  obtain ⟨r, hx⟩ := get_some hlt
  have hgr := hr r (H2 hx)
  have hgi := hgs i
  have hsi := hsz i
  refine D5 (A3 (E1 (A3 (A2 ?_))))
  refine A1 rfl rfl rfl (J4 rfl K2 E0 (A0 rfl) (A0 rfl) hx (by first | omega | (simp only [A5, B1, B5, C1, B0, szR] at *; omega))) ?_
  refine A1 rfl rfl rfl (K7 rfl (A0 rfl) G5 E0) ?_
  refine F4 rfl rfl rfl rfl Tryz.zeroValue49 rfl ?_
  intro b7
  refine D3 0 rfl rfl rfl (A0 rfl) (A0 rfl) (D8 _) rfl E0 rfl ?_
  refine A4 (A3 ?_)
  refine H9 (by first | (simp only [TState.ow, TState.ocs, pick, L5, L1, L2, K9, L3, List.nil_append, L6, L7, List.append_nil, L0, List.take_zero, L4, List.drop_zero]; exact rfl) | exact rfl) ?_
  refine A2 ?_
  refine A1 rfl rfl rfl (D9 1 rfl (A0 rfl) rfl C4 A8 rfl) ?_
  refine A1 rfl rfl rfl (D9 0 rfl (A0 rfl) rfl G5 E0 rfl) ?_
  refine I8 [2, 2] rfl rfl rfl rfl Tryz.call103 rfl (Ay1 (stFrom zState (l.take i)) y r hgi (by omega) (by omega)) (A7 (A0 rfl) (A7 (A0 rfl) D2)) rfl ?_
  intro x19 ok19
  refine A6 rfl rfl rfl rfl rfl ?_
  refine A1 rfl rfl rfl (F6 rfl (A0 rfl) rfl) ?_
  refine A1 rfl rfl rfl (F6 rfl (A0 rfl) rfl) ?_
  refine F4 rfl rfl rfl rfl Tryz.zeroValue30 rfl ?_
  intro b8
  refine D3 0 rfl rfl rfl (A0 rfl) (A0 rfl) (D8 _) rfl A8 rfl ?_
  refine C2 rfl rfl rfl rfl rfl ?_
  refine A4 (A3 (A3 ?_))
  refine H9 (by first | (simp only [TState.ow, TState.ocs, pick, L5, L1, L2, K9, L3, List.nil_append, L6, L7, List.append_nil, L0, List.take_zero, L4, List.drop_zero]; exact rfl) | exact rfl) ?_
  refine A2 ?_
  refine A6 rfl rfl rfl rfl rfl ?_
  refine A4 ?_
  refine D0 (A0 rfl) ?_ ?_
  ·intro h22
   have hstep : (applyS (stFrom zState (l.take i)) r).1 = stepS (stFrom zState (l.take i)) r := by (unfold stepS; rw [if_pos h22])
   refine H9 (by first | (simp only [TState.ow, TState.ocs, pick, L5, L1, L2, K9, L3, List.nil_append, L6, L7, List.append_nil, L0, List.take_zero, L4, List.drop_zero]; exact rfl) | exact rfl) ?_
   refine A2 ?_
   refine A1 rfl rfl rfl (D9 0 rfl (A0 rfl) rfl C4 A8 rfl) ?_
   refine D3 6 rfl rfl rfl (A0 rfl) (A0 rfl) (D8 _) rfl A8 rfl ?_
   refine A4 ?_
   refine H9 (by first | (simp only [TState.ow, TState.ocs, pick, L5, L1, L2, K9, L3, List.nil_append, L6, L7, List.append_nil, L0, List.take_zero, L4, List.drop_zero]; exact rfl) | exact rfl) ?_
   refine A2 ?_
   refine A6 rfl rfl rfl rfl rfl ?_
   refine A6 rfl rfl rfl rfl rfl ?_
   refine A1 rfl rfl rfl (O1 rfl P9 J7 Tryz.zeroValue4 rfl rfl rfl rfl (E8 (A0 rfl) (W1 _) I5) rfl rfl) ?_
   refine N6 (by' := 1) 7 rfl rfl rfl rfl P9 Tryz.type4 rfl rfl rfl rfl rfl rfl (A0 rfl) (A0 rfl) rfl (by first | omega | (simp only [A5, B1, B5, C1, B0, szR] at *; omega)) ?_
   intro v27_1
   refine C2 rfl rfl rfl rfl rfl ?_
   refine A4 (A2 ?_)
   refine A1 rfl rfl rfl (H4 rfl (A0 rfl) C6 (by first | omega | (simp only [A5, B1, B5, C1, B0, szR] at *; omega))) ?_
   refine A6 rfl rfl rfl rfl rfl ?_
   refine A4 ?_
   refine Y2 i y v bs (i + 1) ((x19.1, x19.2)) (v27_1) (bs ++ [(applyS (stFrom zState (l.take i)) r).2]) ?_ ?_ (Le.trans (H7 [0, 0, 0, 2, 2, 0, 0, 0] rfl) (P1 4 (by first | (rw [List.map_append, n1 hx, ← hstep]; rfl) | rfl) ⟨rfl, rfl, rfl, rfl, rfl, rfl, rfl, trivial⟩))
   ·exact ⟨by omega, by rw [j9 hx, hinv.2.1], by rw [K4]; simp; omega⟩
   ·omega
  ·intro h22
   have hstep : stFrom zState (l.take i) = stepS (stFrom zState (l.take i)) r := by (conv => rhs; unfold stepS; rw [if_neg (by rw [h22]; decide)])
   refine D5 ?_
   refine H9 (by first | (simp only [TState.ow, TState.ocs, pick, L5, L1, L2, K9, L3, List.nil_append, L6, L7, List.append_nil, L0, List.take_zero, L4, List.drop_zero]; exact rfl) | exact rfl) ?_
   refine A2 ?_
   refine A6 rfl rfl rfl rfl rfl ?_
   refine A6 rfl rfl rfl rfl rfl ?_
   refine A1 rfl rfl rfl (O1 rfl P9 J7 Tryz.zeroValue4 rfl rfl rfl rfl (E8 (A0 rfl) (W1 _) I5) rfl rfl) ?_
   refine N6 (by' := 1) 7 rfl rfl rfl rfl P9 Tryz.type4 rfl rfl rfl rfl rfl rfl (A0 rfl) (A0 rfl) rfl (by first | omega | (simp only [A5, B1, B5, C1, B0, szR] at *; omega)) ?_
   intro v27_2
   refine C2 rfl rfl rfl rfl rfl ?_
   refine A4 (A2 ?_)
   refine A1 rfl rfl rfl (H4 rfl (A0 rfl) C6 (by first | omega | (simp only [A5, B1, B5, C1, B0, szR] at *; omega))) ?_
   refine A6 rfl rfl rfl rfl rfl ?_
   refine A4 ?_
   refine Y2 i y v bs (i + 1) ((y.1, y.2)) (v27_2) (bs ++ [(applyS (stFrom zState (l.take i)) r).2]) ?_ ?_ (Le.trans (H7 [0, 2, 2, 2, 2, 0, 0, 0] rfl) (P1 4 (by first | (rw [List.map_append, n1 hx, ← hstep]; rfl) | rfl) ⟨rfl, rfl, rfl, rfl, rfl, rfl, rfl, trivial⟩))
   ·exact ⟨by omega, by rw [j9 hx, hinv.2.1], by rw [K4]; simp; omega⟩
   ·omega
 ·intro h13
  have k13 := of_decide_eq_false h13; try simp only [A5] at k13
  have hge : i = l.length := by omega
  have hbs := hinv.2.1
  rw [hge, List.take_length] at hbs
  rw [hge, List.take_length, ← hbs]
  refine I4 ?_
  refine A3 ?_
  refine H9 (by first | (simp only [TState.ow, TState.ocs, pick, L5, L1, L2, K9, L3, List.nil_append, L6, L7, List.append_nil, L0, List.take_zero, L4, List.drop_zero]; exact rfl) | exact rfl) ?_
  refine A2 ?_
  refine A1 rfl rfl rfl (D9 0 rfl (A0 rfl) rfl C4 A8 rfl) ?_
  refine A6 rfl rfl rfl rfl rfl ?_
  refine D3 4 rfl rfl rfl (A0 rfl) (A0 rfl) (D8 _) rfl A8 rfl ?_
  refine C2 rfl rfl rfl rfl rfl ?_
  refine A4 ?_
  refine C8 ?_
  exact K0 [1, 1, 1] (y.1, y.2, v) (trivial) rfl (by rfl) (Q3 rfl (by decide) (E4 (G3 (ys := _) 4 rfl rfl C4 A8 rfl) (E4 (D1 rfl (by rfl)) J6)))
theorem As2 (b : Nat) (code : List Int) (hcode : ByteL code) (c : TCur) (hp : c.p ≤ 2000000) : GSpec Tryz.prog 175 [AV.ptr b 0] [.box b 127 (curC code c)] (fun x : TCur × TRec => x.1.p ≤ c.p + 100 ∧ x.2.size ≤ 1000 ∧ 0 ≤ x.2.Lead ∧ x.2.Lead ≤ 3 ∧ 0 ≤ x.2.Time ∧ x.2.Time ≤ 100001) (fun x => [.box b 127 (curC code x.1)]) (fun x => AV.agg x.2.cs) :=
  y9 (fun x => (x.1, x.2.1)) (fun x => TRec.ow x.2.1 x.2.2) (fun x => [.box b 127 (curC code x.1)]) (Aa7 b code hcode c hp) (fun _ h => h) (fun x _ => X8 (TRec.lc _ _)) (fun x _ => List.perm_append_comm (l₁ := [_])) (fun _ _ => U6 0 rfl rfl P6) (fun x _ => At9 ⟨rfl, rfl, AD2⟩ AZ5)
theorem AJ8 (b : Nat) (code : List Int) (hcode : ByteL code) (c : TCur) (hp : c.p ≤ 1000000) : GSpec Tryz.prog 80 [AV.ptr b 0] [.box b 127 (curC code c)] (fun x : TCur × TRec => x.1.p ≤ c.p + 120 ∧ x.2.size ≤ 1002 ∧ 0 ≤ x.2.Lead ∧ x.2.Lead ≤ 3 ∧ 0 ≤ x.2.Time ∧ x.2.Time ≤ 100001) (fun x => [.box b 127 (curC code x.1)]) (fun x => AV.agg x.2.cs) :=
  y9 (fun x => (x.1, x.2.1)) (fun x => TRec.ow x.2.1 x.2.2) (fun x => [.box b 127 (curC code x.1)]) (Aj4 b code hcode c hp) (fun _ h => h) (fun x _ => X8 (TRec.lc _ _)) (fun x _ => List.perm_append_comm (l₁ := [_])) (fun _ _ => U6 0 rfl rfl P6) (fun x _ => At9 ⟨rfl, rfl, AD2⟩ AZ5)
theorem AV0 (b : Nat) (code : List Int) (hcode : ByteL code) (c : TCur) (hp : c.p ≤ 900000) : GSpec Tryz.prog 78 [AV.ptr b 0] [.box b 127 (curC code c)] (fun x : TCur × List TRec × Value => x.1.p ≤ c.p + 1300 ∧ x.2.1.length ≤ 11 ∧ ∀ r ∈ x.2.1, r.size ≤ 1000 ∧ r.Time ≤ 33 ∧ 0 ≤ r.Lead ∧ r.Lead ≤ 3) (fun x => [.box b 127 (curC code x.1), .arr x.2.2 49 7 (x.2.1.map TRec.cs)]) (fun x => AV.is x.2.2) := by
 refine J3 Tryz.func78 rfl Tryz.ntmps78 rfl ?_
 refine A3 (A2 ?_)
 refine A1 rfl rfl rfl (C3 rfl M6) ?_
 refine A4 (A3 (A2 ?_))
 refine S1 49 7 rfl rfl rfl rfl M6 ?_
 intro v3
 refine A4 (A3 (A2 ?_))
 refine A1 rfl rfl rfl (C3 rfl C6) ?_
 refine A4 (A3 (A3 (A2 ?_)))
 refine A6 rfl rfl rfl rfl rfl ?_
 refine I8 [1] rfl rfl rfl rfl Tryz.call100 rfl (Q2 _ _ hcode _ _ (by omega) (by omega)) (A7 (A0 rfl) (A7 C6 D2)) rfl ?_
 intro x9 ok9
 refine C2 rfl rfl rfl rfl rfl ?_
 refine A4 (E1 ?_)
 refine AWP.le (H7 [0, 0] rfl) ?_
 refine Ap8 [(0, _), (2, _)] _ (fun (n : Int) (cc : TCur) (l : List TRec) (v : Value) (t : Int) => (0 ≤ n ∧ n + l.length ≤ 11) ∧ cc.p + 110 * n ≤ c.p + 1220 ∧ (0 ≤ t ∧ t + 3 * n ≤ 33) ∧ ∀ r ∈ l, r.size ≤ 1000 ∧ r.Time ≤ 33 ∧ 0 ≤ r.Lead ∧ r.Lead ≤ 3) (fun (n : Int) (cc : TCur) (l : List TRec) (v : Value) (t : Int) => [.box b 127 (curC code cc), .arr v 49 7 (l.map TRec.cs)]) (fun (n : Int) (cc : TCur) (l : List TRec) (v : Value) (t : Int) => [(3, AV.is v), (4, AV.int t), (5, AV.int n)]) (fun (n : Int) (cc : TCur) (l : List TRec) (v : Value) (t : Int) => n.toNat) (x9.2) (x9.1) ([]) (v3) (0) ?_ (U7 (by rfl) ⟨rfl, rfl, rfl, rfl, rfl, trivial⟩) ?_
 ·exact ⟨⟨by omega, by simp; omega⟩, by omega, ⟨by omega, by omega⟩, fun r hr => by cases hr⟩
 intro n cc l v t hinv
 refine A3 (A3 (A2 ?_))
 refine A6 rfl rfl rfl rfl rfl ?_
 refine A1 rfl rfl rfl (P4 rfl (A0 rfl) C6) ?_
 refine A4 ?_
 refine D0 (A0 rfl) ?_ ?_
 ·intro h11
  have k11 := of_decide_eq_true h11; try simp only [A5] at k11
  refine D5 (A3 (E1 (A3 (A2 ?_))))
  refine A6 rfl rfl rfl rfl rfl ?_
  refine I8 [0] rfl rfl rfl rfl Tryz.call175 rfl (As2 _ _ hcode _ (by omega)) (A7 (A0 rfl) D2) rfl ?_
  intro x15 ok15
  refine F4 rfl rfl rfl rfl Tryz.zeroValue49 rfl ?_
  intro b6
  refine D3 0 rfl rfl rfl (A0 rfl) (A0 rfl) (D8 _) rfl E0 rfl ?_
  refine A4 (A3 (A2 ?_))
  refine A6 rfl rfl rfl rfl rfl ?_
  refine A6 rfl rfl rfl rfl rfl ?_
  refine I8 [1] rfl rfl rfl rfl Tryz.call100 rfl (Q2 _ _ hcode _ _ (by omega) (by omega)) (A7 (A0 rfl) (A7 C6 D2)) rfl ?_
  intro x18 ok18
  refine A1 rfl rfl rfl (H4 rfl C6 (A0 rfl) (by first | omega | (simp only [A5, B1, B5, C1, B0, szR] at *; omega))) ?_
  refine A1 rfl rfl rfl (H4 rfl (A0 rfl) (A0 rfl) (by first | omega | (simp only [A5, B1, B5, C1, B0, szR] at *; omega))) ?_
  refine C2 rfl rfl rfl rfl rfl ?_
  refine A4 (A3 (A3 (A2 ?_)))
  refine A1 rfl rfl rfl (B3 2 rfl B6 rfl C0 (A0 rfl) rfl) ?_
  refine A1 rfl rfl rfl (B2 1 rfl (A0 rfl) rfl C5 rfl) ?_
  refine A1 rfl rfl rfl (P4 rfl (A0 rfl) C6) ?_
  refine A4 ?_
  refine D0 (A0 rfl) ?_ ?_
  ·intro h23
   have k23 := of_decide_eq_true h23; try simp only [A5] at k23
   refine A2 ?_
   refine A6 rfl rfl rfl rfl rfl ?_
   refine A1 rfl rfl rfl (B3 2 rfl B6 rfl C0 (A0 rfl) rfl) ?_
   refine I3 1 rfl rfl rfl (A0 rfl) (A0 rfl) (L9 _ _) rfl C0 rfl ?_
   refine A4 (A3 (A3 (A2 ?_)))
   refine A1 rfl rfl rfl (B3 0 rfl B6 rfl C0 (A0 rfl) rfl) ?_
   refine A1 rfl rfl rfl (B2 1 rfl (A0 rfl) rfl C5 rfl) ?_
   refine A1 rfl rfl rfl (N3 rfl (A0 rfl) C6) ?_
   refine A6 rfl rfl rfl rfl rfl ?_
   refine B7 rfl rfl (D6 rfl rfl rfl) (fun hc => B3 0 rfl B6 rfl C0 (A0 rfl) rfl) ?_
   refine B7 rfl rfl (D6 rfl rfl rfl) (fun hc => B2 1 rfl (A9 rfl hc) rfl C5 rfl) ?_
   refine B7 rfl rfl (D6 rfl rfl rfl) (fun hc => N3 rfl (A9 rfl hc) C6) ?_
   refine A1 rfl rfl rfl (R4 rfl (A0 rfl) (G2 rfl)) ?_
   refine A6 rfl rfl rfl rfl rfl ?_
   refine B7 rfl rfl (B9 rfl rfl rfl) (fun hc => C7 rfl (A0 rfl)) ?_
   refine B7 rfl rfl (B9 rfl rfl rfl) (fun hc => V4 2 rfl K2 (A9 rfl hc) rfl) ?_
   refine B7 rfl rfl (B9 rfl rfl rfl) (fun hc => P4 rfl (A9 rfl hc) C6) ?_
   refine A1 rfl rfl rfl (H8 rfl (A0 rfl) (G2 rfl)) ?_
   refine A4 ?_
   refine D0 (A0 rfl) ?_ ?_
   ·intro h38
    have hll : 0 < l.length := by (cases hm : l with | nil => (rw [hm] at h38; simp at h38) | cons y q => simp)
    refine A3 (A2 ?_)
    refine A6 rfl rfl rfl rfl rfl ?_
    refine A6 rfl rfl rfl rfl rfl ?_
    refine A6 rfl rfl rfl rfl rfl ?_
    refine A1 rfl rfl rfl (V4 2 rfl K2 (A0 rfl) rfl) ?_
    refine I8 [0] rfl rfl rfl rfl Tryz.call100 rfl (Q2 _ _ hcode _ _ (by simp only [A5]; omega) (by omega)) (A7 (A0 rfl) (A7 (A0 rfl) D2)) rfl ?_
    intro x43 ok43
    have hix : x43.2.toNat < l.length := by (have h9 := ok43.2; simp only [A5] at h9; omega)
    obtain ⟨z, hz⟩ := get_some hix
    have hrow : (l.map TRec.cs)[x43.2.toNat]? = some z.cs := by (rw [List.getElem?_map, hz]; rfl)
    refine A1 rfl rfl rfl (U3 2 rfl K2 E0 (A0 rfl) rfl (A0 rfl) (by omega) (by first | omega | (simp only [A5]; omega))) ?_
    refine A1 rfl rfl rfl (r9 2 rfl (A0 rfl) rfl G5 E0 hrow (by decide)) ?_
    refine F4 rfl rfl rfl rfl Tryz.zeroValue49 rfl ?_
    intro b7
    refine D3 0 rfl rfl rfl (A0 rfl) (A0 rfl) (D8 _) rfl E0 rfl ?_
    refine A4 (A3 (A2 ?_))
    refine A1 rfl rfl rfl (B3 0 rfl B6 rfl C0 (A0 rfl) rfl) ?_
    refine A1 rfl rfl rfl (B2 0 rfl (A0 rfl) rfl C5 rfl) ?_
    refine A1 rfl rfl rfl (N3 rfl (A0 rfl) C6) ?_
    refine A4 ?_
    refine D0 (A0 rfl) ?_ ?_
    ·intro h48
     have k48 := M1 h48; try simp only [A5] at k48
     refine A2 ?_
     refine A1 rfl rfl rfl (B3 1 rfl B6 rfl C0 (A0 rfl) rfl) ?_
     refine A1 rfl rfl rfl (B2 0 rfl (A0 rfl) rfl C5 rfl) ?_
     refine A1 rfl rfl rfl (B3 1 rfl B6 rfl C0 (A0 rfl) rfl) ?_
     refine I3 2 rfl rfl rfl (A0 rfl) (A0 rfl) (L9 _ _) rfl C0 rfl ?_
     refine A4 (A2 ?_)
     refine A6 rfl rfl rfl rfl rfl ?_
     refine A1 rfl rfl rfl (D9 2 rfl (A0 rfl) rfl G5 E0 rfl) ?_
     refine A1 rfl rfl rfl (O1 rfl K2 E0 Tryz.zeroValue49 rfl rfl rfl rfl (E8 (A0 rfl) (D8 _) I5) rfl rfl) ?_
     refine N6 (by' := 88) 3 rfl rfl rfl rfl K2 Tryz.type49 rfl rfl rfl rfl rfl rfl (A0 rfl) (A0 rfl) rfl (by first | omega | (simp only [A5, B1, B5, C1, B0, szR] at *; omega)) ?_
     intro v55_1
     refine C2 rfl rfl rfl rfl rfl ?_
     refine A4 (A2 ?_)
     refine A6 rfl rfl rfl rfl rfl ?_
     refine A1 rfl rfl rfl (S5 rfl (A0 rfl) C6 (by first | omega | (simp only [A5, B1, B5, C1, B0, szR] at *; omega))) ?_
     refine C2 rfl rfl rfl rfl rfl ?_
     refine A4 ?_
     refine n9 n cc l v t (n - 1) (x43.1) (l ++ [⟨x15.2.Kind, z.Txn, t + (1 + x18.2), x15.2.Lead, x15.2.Reads, x15.2.Writes, x15.2.Yes⟩]) (v55_1) (t + (1 + x18.2)) ?_ ?_ (Le.trans (H7 [0, 1, 0, 0] rfl) (P1 2 (by (rw [List.map_append]; rfl)) ⟨rfl, rfl, rfl, rfl, rfl, trivial⟩))
     ·exact ⟨⟨by omega, by rw [K4]; simp; omega⟩, by omega, ⟨by omega, by omega⟩, fun q hq => by (rcases List.mem_append.1 hq with hq | hq; (exact hinv.2.2.2 q hq); (rw [List.mem_singleton.1 hq]; exact ⟨ok15.2.1, by first | (dsimp only; omega) | omega, ok15.2.2.1, ok15.2.2.2.1⟩))⟩
     ·omega
    ·intro h48
     have k48 := M0 h48; try simp only [A5] at k48
     refine D5 (A2 ?_)
     refine A6 rfl rfl rfl rfl rfl ?_
     refine A1 rfl rfl rfl (D9 2 rfl (A0 rfl) rfl G5 E0 rfl) ?_
     refine A1 rfl rfl rfl (O1 rfl K2 E0 Tryz.zeroValue49 rfl rfl rfl rfl (E8 (A0 rfl) (D8 _) I5) rfl rfl) ?_
     refine N6 (by' := 88) 3 rfl rfl rfl rfl K2 Tryz.type49 rfl rfl rfl rfl rfl rfl (A0 rfl) (A0 rfl) rfl (by first | omega | (simp only [A5, B1, B5, C1, B0, szR] at *; omega)) ?_
     intro v55_2
     refine C2 rfl rfl rfl rfl rfl ?_
     refine A4 (A2 ?_)
     refine A6 rfl rfl rfl rfl rfl ?_
     refine A1 rfl rfl rfl (S5 rfl (A0 rfl) C6 (by first | omega | (simp only [A5, B1, B5, C1, B0, szR] at *; omega))) ?_
     refine C2 rfl rfl rfl rfl rfl ?_
     refine A4 ?_
     refine n9 n cc l v t (n - 1) (x43.1) (l ++ [⟨x15.2.Kind, x15.2.Txn, t + (1 + x18.2), x15.2.Lead, x15.2.Reads, x15.2.Writes, x15.2.Yes⟩]) (v55_2) (t + (1 + x18.2)) ?_ ?_ (Le.trans (H7 [0, 1, 0, 0] rfl) (P1 2 (by (rw [List.map_append]; rfl)) ⟨rfl, rfl, rfl, rfl, rfl, trivial⟩))
     ·exact ⟨⟨by omega, by rw [K4]; simp; omega⟩, by omega, ⟨by omega, by omega⟩, fun q hq => by (rcases List.mem_append.1 hq with hq | hq; (exact hinv.2.2.2 q hq); (rw [List.mem_singleton.1 hq]; exact ⟨ok15.2.1, by first | (dsimp only; omega) | omega, ok15.2.2.1, ok15.2.2.2.1⟩))⟩
     ·omega
   ·intro h38
    refine D5 (A2 ?_)
    refine A6 rfl rfl rfl rfl rfl ?_
    refine A1 rfl rfl rfl (D9 1 rfl (A0 rfl) rfl G5 E0 rfl) ?_
    refine A1 rfl rfl rfl (O1 rfl K2 E0 Tryz.zeroValue49 rfl rfl rfl rfl (E8 (A0 rfl) (D8 _) I5) rfl rfl) ?_
    refine N6 (by' := 88) 2 rfl rfl rfl rfl K2 Tryz.type49 rfl rfl rfl rfl rfl rfl (A0 rfl) (A0 rfl) rfl (by first | omega | (simp only [A5, B1, B5, C1, B0, szR] at *; omega)) ?_
    intro v55_3
    refine C2 rfl rfl rfl rfl rfl ?_
    refine A4 (A2 ?_)
    refine A6 rfl rfl rfl rfl rfl ?_
    refine A1 rfl rfl rfl (S5 rfl (A0 rfl) C6 (by first | omega | (simp only [A5, B1, B5, C1, B0, szR] at *; omega))) ?_
    refine C2 rfl rfl rfl rfl rfl ?_
    refine A4 ?_
    refine n9 n cc l v t (n - 1) (x18.1) (l ++ [⟨x15.2.Kind, x15.2.Txn, t + (1 + x18.2), x15.2.Lead, x15.2.Reads, x15.2.Writes, x15.2.Yes⟩]) (v55_3) (t + (1 + x18.2)) ?_ ?_ (Le.trans (H7 [1, 0, 0] rfl) (P1 1 (by (rw [List.map_append]; rfl)) ⟨rfl, rfl, rfl, rfl, rfl, trivial⟩))
    ·exact ⟨⟨by omega, by rw [K4]; simp; omega⟩, by omega, ⟨by omega, by omega⟩, fun q hq => by (rcases List.mem_append.1 hq with hq | hq; (exact hinv.2.2.2 q hq); (rw [List.mem_singleton.1 hq]; exact ⟨ok15.2.1, by first | (dsimp only; omega) | omega, ok15.2.2.1, ok15.2.2.2.1⟩))⟩
    ·omega
  ·intro h23
   have k23 := of_decide_eq_false h23; try simp only [A5] at k23
   refine D5 (A3 (A3 (A2 ?_)))
   refine A1 rfl rfl rfl (B3 0 rfl B6 rfl C0 (A0 rfl) rfl) ?_
   refine A1 rfl rfl rfl (B2 1 rfl (A0 rfl) rfl C5 rfl) ?_
   refine A1 rfl rfl rfl (N3 rfl (A0 rfl) C6) ?_
   refine A6 rfl rfl rfl rfl rfl ?_
   refine B7 rfl rfl (D6 rfl rfl rfl) (fun hc => B3 0 rfl B6 rfl C0 (A0 rfl) rfl) ?_
   refine B7 rfl rfl (D6 rfl rfl rfl) (fun hc => B2 1 rfl (A9 rfl hc) rfl C5 rfl) ?_
   refine B7 rfl rfl (D6 rfl rfl rfl) (fun hc => N3 rfl (A9 rfl hc) C6) ?_
   refine A1 rfl rfl rfl (R4 rfl (A0 rfl) (G2 rfl)) ?_
   refine A6 rfl rfl rfl rfl rfl ?_
   refine B7 rfl rfl (B9 rfl rfl rfl) (fun hc => C7 rfl (A0 rfl)) ?_
   refine B7 rfl rfl (B9 rfl rfl rfl) (fun hc => V4 2 rfl K2 (A9 rfl hc) rfl) ?_
   refine B7 rfl rfl (B9 rfl rfl rfl) (fun hc => P4 rfl (A9 rfl hc) C6) ?_
   refine A1 rfl rfl rfl (H8 rfl (A0 rfl) (G2 rfl)) ?_
   refine A4 ?_
   refine D0 (A0 rfl) ?_ ?_
   ·intro h38
    have hll : 0 < l.length := by (cases hm : l with | nil => (rw [hm] at h38; simp at h38) | cons y q => simp)
    refine A3 (A2 ?_)
    refine A6 rfl rfl rfl rfl rfl ?_
    refine A6 rfl rfl rfl rfl rfl ?_
    refine A6 rfl rfl rfl rfl rfl ?_
    refine A1 rfl rfl rfl (V4 2 rfl K2 (A0 rfl) rfl) ?_
    refine I8 [0] rfl rfl rfl rfl Tryz.call100 rfl (Q2 _ _ hcode _ _ (by simp only [A5]; omega) (by omega)) (A7 (A0 rfl) (A7 (A0 rfl) D2)) rfl ?_
    intro x43 ok43
    have hix : x43.2.toNat < l.length := by (have h9 := ok43.2; simp only [A5] at h9; omega)
    obtain ⟨z, hz⟩ := get_some hix
    have hrow : (l.map TRec.cs)[x43.2.toNat]? = some z.cs := by (rw [List.getElem?_map, hz]; rfl)
    refine A1 rfl rfl rfl (U3 2 rfl K2 E0 (A0 rfl) rfl (A0 rfl) (by omega) (by first | omega | (simp only [A5]; omega))) ?_
    refine A1 rfl rfl rfl (r9 2 rfl (A0 rfl) rfl G5 E0 hrow (by decide)) ?_
    refine F4 rfl rfl rfl rfl Tryz.zeroValue49 rfl ?_
    intro b7
    refine D3 0 rfl rfl rfl (A0 rfl) (A0 rfl) (D8 _) rfl E0 rfl ?_
    refine A4 (A3 (A2 ?_))
    refine A1 rfl rfl rfl (B3 0 rfl B6 rfl C0 (A0 rfl) rfl) ?_
    refine A1 rfl rfl rfl (B2 0 rfl (A0 rfl) rfl C5 rfl) ?_
    refine A1 rfl rfl rfl (N3 rfl (A0 rfl) C6) ?_
    refine A4 ?_
    refine D0 (A0 rfl) ?_ ?_
    ·intro h48
     have k48 := M1 h48; try simp only [A5] at k48
     refine A2 ?_
     refine A1 rfl rfl rfl (B3 1 rfl B6 rfl C0 (A0 rfl) rfl) ?_
     refine A1 rfl rfl rfl (B2 0 rfl (A0 rfl) rfl C5 rfl) ?_
     refine A1 rfl rfl rfl (B3 1 rfl B6 rfl C0 (A0 rfl) rfl) ?_
     refine I3 2 rfl rfl rfl (A0 rfl) (A0 rfl) (L9 _ _) rfl C0 rfl ?_
     refine A4 (A2 ?_)
     refine A6 rfl rfl rfl rfl rfl ?_
     refine A1 rfl rfl rfl (D9 2 rfl (A0 rfl) rfl G5 E0 rfl) ?_
     refine A1 rfl rfl rfl (O1 rfl K2 E0 Tryz.zeroValue49 rfl rfl rfl rfl (E8 (A0 rfl) (D8 _) I5) rfl rfl) ?_
     refine N6 (by' := 88) 3 rfl rfl rfl rfl K2 Tryz.type49 rfl rfl rfl rfl rfl rfl (A0 rfl) (A0 rfl) rfl (by first | omega | (simp only [A5, B1, B5, C1, B0, szR] at *; omega)) ?_
     intro v55_4
     refine C2 rfl rfl rfl rfl rfl ?_
     refine A4 (A2 ?_)
     refine A6 rfl rfl rfl rfl rfl ?_
     refine A1 rfl rfl rfl (S5 rfl (A0 rfl) C6 (by first | omega | (simp only [A5, B1, B5, C1, B0, szR] at *; omega))) ?_
     refine C2 rfl rfl rfl rfl rfl ?_
     refine A4 ?_
     refine n9 n cc l v t (n - 1) (x43.1) (l ++ [⟨x15.2.Kind, z.Txn, x15.2.Time, x15.2.Lead, x15.2.Reads, x15.2.Writes, x15.2.Yes⟩]) (v55_4) (t + (1 + x18.2)) ?_ ?_ (Le.trans (H7 [0, 1, 0, 0] rfl) (P1 2 (by (rw [List.map_append]; rfl)) ⟨rfl, rfl, rfl, rfl, rfl, trivial⟩))
     ·exact ⟨⟨by omega, by rw [K4]; simp; omega⟩, by omega, ⟨by omega, by omega⟩, fun q hq => by (rcases List.mem_append.1 hq with hq | hq; (exact hinv.2.2.2 q hq); (rw [List.mem_singleton.1 hq]; exact ⟨ok15.2.1, by first | (dsimp only; omega) | omega, ok15.2.2.1, ok15.2.2.2.1⟩))⟩
     ·omega
    ·intro h48
     have k48 := M0 h48; try simp only [A5] at k48
     refine D5 (A2 ?_)
     refine A6 rfl rfl rfl rfl rfl ?_
     refine A1 rfl rfl rfl (D9 2 rfl (A0 rfl) rfl G5 E0 rfl) ?_
     refine A1 rfl rfl rfl (O1 rfl K2 E0 Tryz.zeroValue49 rfl rfl rfl rfl (E8 (A0 rfl) (D8 _) I5) rfl rfl) ?_
     refine N6 (by' := 88) 3 rfl rfl rfl rfl K2 Tryz.type49 rfl rfl rfl rfl rfl rfl (A0 rfl) (A0 rfl) rfl (by first | omega | (simp only [A5, B1, B5, C1, B0, szR] at *; omega)) ?_
     intro v55_5
     refine C2 rfl rfl rfl rfl rfl ?_
     refine A4 (A2 ?_)
     refine A6 rfl rfl rfl rfl rfl ?_
     refine A1 rfl rfl rfl (S5 rfl (A0 rfl) C6 (by first | omega | (simp only [A5, B1, B5, C1, B0, szR] at *; omega))) ?_
     refine C2 rfl rfl rfl rfl rfl ?_
     refine A4 ?_
     refine n9 n cc l v t (n - 1) (x43.1) (l ++ [⟨x15.2.Kind, x15.2.Txn, x15.2.Time, x15.2.Lead, x15.2.Reads, x15.2.Writes, x15.2.Yes⟩]) (v55_5) (t + (1 + x18.2)) ?_ ?_ (Le.trans (H7 [0, 1, 0, 0] rfl) (P1 2 (by (rw [List.map_append]; rfl)) ⟨rfl, rfl, rfl, rfl, rfl, trivial⟩))
     ·exact ⟨⟨by omega, by rw [K4]; simp; omega⟩, by omega, ⟨by omega, by omega⟩, fun q hq => by (rcases List.mem_append.1 hq with hq | hq; (exact hinv.2.2.2 q hq); (rw [List.mem_singleton.1 hq]; exact ⟨ok15.2.1, by first | (dsimp only; omega) | omega, ok15.2.2.1, ok15.2.2.2.1⟩))⟩
     ·omega
   ·intro h38
    refine D5 (A2 ?_)
    refine A6 rfl rfl rfl rfl rfl ?_
    refine A1 rfl rfl rfl (D9 1 rfl (A0 rfl) rfl G5 E0 rfl) ?_
    refine A1 rfl rfl rfl (O1 rfl K2 E0 Tryz.zeroValue49 rfl rfl rfl rfl (E8 (A0 rfl) (D8 _) I5) rfl rfl) ?_
    refine N6 (by' := 88) 2 rfl rfl rfl rfl K2 Tryz.type49 rfl rfl rfl rfl rfl rfl (A0 rfl) (A0 rfl) rfl (by first | omega | (simp only [A5, B1, B5, C1, B0, szR] at *; omega)) ?_
    intro v55_6
    refine C2 rfl rfl rfl rfl rfl ?_
    refine A4 (A2 ?_)
    refine A6 rfl rfl rfl rfl rfl ?_
    refine A1 rfl rfl rfl (S5 rfl (A0 rfl) C6 (by first | omega | (simp only [A5, B1, B5, C1, B0, szR] at *; omega))) ?_
    refine C2 rfl rfl rfl rfl rfl ?_
    refine A4 ?_
    refine n9 n cc l v t (n - 1) (x18.1) (l ++ [⟨x15.2.Kind, x15.2.Txn, x15.2.Time, x15.2.Lead, x15.2.Reads, x15.2.Writes, x15.2.Yes⟩]) (v55_6) (t + (1 + x18.2)) ?_ ?_ (Le.trans (H7 [1, 0, 0] rfl) (P1 1 (by (rw [List.map_append]; rfl)) ⟨rfl, rfl, rfl, rfl, rfl, trivial⟩))
    ·exact ⟨⟨by omega, by rw [K4]; simp; omega⟩, by omega, ⟨by omega, by omega⟩, fun q hq => by (rcases List.mem_append.1 hq with hq | hq; (exact hinv.2.2.2 q hq); (rw [List.mem_singleton.1 hq]; exact ⟨ok15.2.1, by first | (dsimp only; omega) | omega, ok15.2.2.1, ok15.2.2.2.1⟩))⟩
    ·omega
 ·intro h11
  have k11 := of_decide_eq_false h11; try simp only [A5] at k11
  refine I4 ?_
  refine A3 (A2 ?_)
  refine A6 rfl rfl rfl rfl rfl ?_
  refine C2 rfl rfl rfl rfl rfl ?_
  refine A4 ?_
  refine C8 ?_
  (refine K0 [0, 0] ((cc, l, v)) ?_ rfl (by first | (dsimp only; rfl) | rfl) (P3 rfl (D1 rfl (by rfl))); exact ⟨show cc.p ≤ _ by omega, show l.length ≤ 11 by omega, hinv.2.2.2⟩)
theorem Ap4 (b : Nat) (code : List Int) (hcode : ByteL code) (c : TCur) (hp : c.p ≤ 900000) : GSpec Tryz.prog 196 [AV.ptr b 0] [.box b 127 (curC code c)] (fun x : TCur × TState × Value × Value => x.1.p ≤ c.p + 1300 ∧ SO x.2.1 ∧ SB 33 x.2.1 ∧ x.2.1.size ≤ 33044) (fun x => .box b 127 (curC code x.1) :: TState.ow x.2.1 x.2.2) (fun x => AV.agg (TState.ocs x.2.1 x.2.2)) := by
 refine J3 Tryz.func196 rfl Tryz.ntmps196 rfl ?_
 refine A3 (A2 ?_)
 refine F4 rfl rfl rfl rfl Tryz.zeroValue30 rfl ?_
 intro b2
 refine A4 (A3 (A2 ?_))
 refine A6 rfl rfl rfl rfl rfl ?_
 refine I8 [1] rfl rfl rfl rfl Tryz.call78 rfl (AV0 _ _ hcode _ (by omega)) (A7 (A0 rfl) D2) rfl ?_
 intro x7 ok7
 refine AF9 (d8 [1] 7 rfl rfl (P0 (H2 (i := 0) rfl) K5) (U6 0 rfl rfl P6)) ?_
 refine I8 [] rfl rfl rfl rfl Tryz.call86 rfl (ofK_own x7.2.1 (by omega) (fun r hr => by have := (ok7.2.2 r hr).1; omega)) (A7 (A0 rfl) D2) rfl ?_
 intro x8 ok8
 refine A6 rfl rfl rfl rfl rfl ?_
 refine A1 rfl rfl rfl (F6 rfl (A0 rfl) rfl) ?_
 refine A1 rfl rfl rfl (F6 rfl (A0 rfl) rfl) ?_
 refine F4 rfl rfl rfl rfl Tryz.zeroValue30 rfl ?_
 intro b3
 refine D3 0 rfl rfl rfl (A0 rfl) (A0 rfl) (D8 _) rfl A8 rfl ?_
 refine C2 rfl rfl rfl rfl rfl ?_
 refine A4 (A3 ?_)
 refine H9 (by first | (simp only [TState.ow, TState.ocs, pick, L5, L1, L2, K9, L3, List.nil_append, L6, L7, List.append_nil, L0, List.take_zero, L4, List.drop_zero]; exact rfl) | exact rfl) ?_
 refine A2 ?_
 refine A1 rfl rfl rfl (D9 0 rfl (A0 rfl) rfl C4 A8 rfl) ?_
 refine D3 5 rfl rfl rfl (A0 rfl) (A0 rfl) (D8 _) rfl A8 rfl ?_
 refine A4 ?_
 refine C8 ?_
 (refine K0 [4, 1, 1] ((x7.1, stFrom zState x7.2.1, x8.1, x8.2.1)) ?_ rfl (by first | (dsimp only; rfl) | rfl) (P3 rfl (G3 (ys := _) 5 rfl rfl C4 A8 rfl)); exact ⟨ok7.1, AS8 Ad3, Au6 ⟨⟨by decide, by decide⟩, fun h hm => by cases hm⟩ (fun r hr => ⟨(ok7.2.2 r hr).2.1, (ok7.2.2 r hr).2.2⟩), Nat.le_trans (w4 _) (st_phi ok7.2.1 fun r hr => (ok7.2.2 r hr).1)⟩)
end Go.Proofs.YtnlhbdkcgaeimaaGreat

set_option linter.unusedVariables false
set_option linter.unusedSimpArgs false
set_option maxRecDepth 100000
namespace Go.Proofs.YtnlhbdkcgaeimaaGreat
open Go Go.AV Go.M
attribute [local irreducible] OpW OpA OpS AWP FSpec ESpec GSpec OpE RetOk RetOkG RvDen Le Ev GuardIs SrcIs
end Go.Proofs.YtnlhbdkcgaeimaaGreat

set_option linter.unusedVariables false
set_option linter.unusedSimpArgs false
set_option maxRecDepth 100000
namespace Go.Proofs.YtnlhbdkcgaeimaaGreat
open Go Go.AV Go.M
attribute [local irreducible] OpW OpA OpS AWP FSpec ESpec GSpec OpE RetOk RetOkG RvDen Le Ev GuardIs SrcIs
end Go.Proofs.YtnlhbdkcgaeimaaGreat

set_option linter.unusedVariables false
set_option linter.unusedSimpArgs false
set_option maxRecDepth 100000
namespace Go.Proofs.YtnlhbdkcgaeimaaGreat
open Go Go.AV Go.M
attribute [local irreducible] OpW OpA OpS AWP FSpec ESpec GSpec OpE RetOk RetOkG RvDen Le Ev GuardIs SrcIs Int.tmod IntKind.wrap bandI
end Go.Proofs.YtnlhbdkcgaeimaaGreat

set_option linter.unusedVariables false
set_option linter.unusedSimpArgs false
set_option maxRecDepth 100000
set_option maxHeartbeats 1000000
namespace Go.Proofs.YtnlhbdkcgaeimaaGreat
open Go Go.AV Go.M
attribute [local irreducible] OpW OpA OpS AWP FSpec ESpec GSpec OpE RetOk RetOkG RvDen Le Ev GuardIs SrcIs
end Go.Proofs.YtnlhbdkcgaeimaaGreat

set_option linter.unusedVariables false
set_option linter.unusedSimpArgs false
set_option maxRecDepth 100000
set_option maxHeartbeats 1000000
namespace Go.Proofs.YtnlhbdkcgaeimaaGreat
open Go Go.AV Go.M
attribute [local irreducible] OpW OpA OpS AWP FSpec ESpec GSpec OpE RetOk RetOkG RvDen Le Ev GuardIs SrcIs
end Go.Proofs.YtnlhbdkcgaeimaaGreat

set_option linter.unusedVariables false
set_option linter.unusedSimpArgs false
namespace Go.Proofs.YtnlhbdkcgaeimaaGreat
open Go Go.Proofs Go.RowKit Go.Shelf Go.M
attribute [local go_sem] Oper.semAt_some
end Go.Proofs.YtnlhbdkcgaeimaaGreat

set_option linter.unusedVariables false
set_option linter.unusedSimpArgs false
namespace Go.Proofs.YtnlhbdkcgaeimaaGreat
open Go Go.Proofs Go.RowKit Go.Shelf Go.M
attribute [local go_sem] Oper.semAt_some
end Go.Proofs.YtnlhbdkcgaeimaaGreat

set_option linter.unusedVariables false
set_option linter.unusedSimpArgs false
set_option maxRecDepth 100000
namespace Go.Proofs.YtnlhbdkcgaeimaaGreat
open Go Go.AV Go.M
attribute [local irreducible] OpW OpA OpS AWP FSpec ESpec RetOk RvDen Le Ev GuardIs
theorem AF4 (a b : List TWrite) : FSpec Tryz.prog 27 [AV.list 3 (a.map TWrite.cs), AV.list 3 (b.map TWrite.cs)] (AV.bool (decide (a = b))) := by
 refine F3 Tryz.func27 rfl Tryz.ntmps27 rfl ?_
 refine Q8 (t := 0) rfl fun hl => ?_
 try simp only [A5] at hl
 refine A3 (A2 ?_)
 refine A1 rfl rfl rfl (C3 rfl F5) ?_
 refine A4 (A3 (A3 (A2 ?_)))
 refine A6 rfl rfl rfl rfl rfl ?_
 refine A1 rfl rfl rfl (G4 rfl G1 (A0 rfl)) ?_
 refine A6 rfl rfl rfl rfl rfl ?_
 refine A1 rfl rfl rfl (G4 rfl G1 (A0 rfl)) ?_
 refine A1 rfl rfl rfl (Z7 rfl (A0 rfl) (A0 rfl)) ?_
 refine A4 ?_
 refine D0 (A0 rfl) ?_ ?_
 ·intro h10
  have k10 := W9 h10; try simp only [A5] at k10
  have hab : a ≠ b := by intro hc; subst hc; exact k10 rfl
  refine A3 (A2 ?_)
  refine A1 rfl rfl rfl (C3 rfl F5) ?_
  refine A4 ?_
  refine C8 ?_
  exact I2 rfl (D1 rfl (by exact congrArg AV.bool (by simp [hab])))
 ·intro h10
  have k10 := S8 h10; try simp only [A5] at k10
  have heq : a.length = b.length := by omega
  refine D5 (A3 (A3 (A2 ?_)))
  refine A6 rfl rfl rfl rfl rfl ?_
  refine A1 rfl rfl rfl (G4 rfl G1 (A0 rfl)) ?_
  refine A1 rfl rfl rfl (C7 rfl C6) ?_
  refine A4 (E1 ?_)
  refine K1 [(0, _), (1, _), (12, _)] _ (fun (i : Nat) => i ≤ a.length ∧ a.take i = b.take i) (fun (i : Nat) => []) (fun (i : Nat) => [(13, AV.int i)]) (fun (i : Nat) => a.length - i) (0) ?_ (J9 ⟨rfl, rfl, rfl, rfl, trivial⟩) ?_
  ·exact ⟨Nat.zero_le _, rfl⟩
  intro i hinv
  refine A3 (A2 ?_)
  refine A1 rfl rfl rfl (M2 rfl (A0 rfl) (A0 rfl)) ?_
  refine A4 (A3 ?_)
  refine D0 (A0 rfl) ?_ ?_
  ·intro h14
   have k14 := of_decide_eq_true h14; try simp only [A5] at k14
   have hlt : i < a.length := by omega
   obtain ⟨x, hx⟩ := get_some hlt
   obtain ⟨y, hy⟩ := get_some (show i < b.length by omega)
   refine D5 (A3 (E1 (A3 (A2 ?_))))
   refine A6 rfl rfl rfl rfl rfl ?_
   refine C2 rfl rfl rfl rfl rfl ?_
   refine A4 (A3 ?_)
   refine J5 (by kernel_rfl) (by kernel_rfl) rfl ?_
   refine B4 rfl rfl (C7 rfl (A0 rfl)) ?_
   refine B4 rfl rfl (C7 rfl (A0 rfl)) ?_
   refine B4 rfl rfl (J4 rfl G1 I6 (A0 rfl) (A0 rfl) hx (by first | omega | (simp only [A5, B1, B5, C1, B0, szR] at *; omega))) ?_
   refine B4 rfl rfl (K7 rfl (A0 rfl) S2 I6) ?_
   refine B4 rfl rfl (C7 rfl (A0 rfl)) ?_
   refine B4 rfl rfl (C7 rfl (A0 rfl)) ?_
   refine B4 rfl rfl (J4 rfl G1 I6 (A0 rfl) (A0 rfl) hy (by first | omega | (simp only [A5, B1, B5, C1, B0, szR] at *; omega))) ?_
   refine B4 rfl rfl (K7 rfl (A0 rfl) S2 I6) ?_
   refine B4 rfl rfl (AA2 rfl J8 (by kernel_rfl) (by kernel_rfl) (A0 rfl) (A0 rfl) (R7 (by kernel_rfl) H3 rfl rfl (r7 O2) (R7 (by kernel_rfl) H3 rfl rfl (r7 O2) (R7 (by kernel_rfl) K3 rfl rfl (i5 N7) m6)))) ?_
   refine O5 ?_
   refine D0 (A0 rfl) ?_ ?_
   ·intro h24
    have hab : a ≠ b := by intro hc; subst hc; rw [hx] at hy; injection hy with hy; subst hy; simp at h24
    refine A3 (A2 ?_)
    refine A1 rfl rfl rfl (C3 rfl F5) ?_
    refine A4 ?_
    refine C8 ?_
    exact I2 rfl (D1 rfl (by exact congrArg AV.bool (by simp [hab])))
   ·intro h24
    refine D5 (A2 ?_)
    refine A1 rfl rfl rfl (H4 rfl (A0 rfl) C6 (by first | omega | (simp only [A5, B1, B5, C1, B0, szR] at *; omega))) ?_
    refine A6 rfl rfl rfl rfl rfl ?_
    refine A4 ?_
    refine M3 i (i + 1) ?_ ?_ (J9 ⟨rfl, rfl, rfl, rfl, trivial⟩)
    ·exact ⟨by omega, W4 hinv.2 hx (by rw [hy]; congr 1; first | (simp_all; done) | (cases x; cases y; simp_all))⟩
    ·omega
  ·intro h14
   have k14 := of_decide_eq_false h14; try simp only [A5] at k14
   have hge : a.length ≤ i := by omega
   have hab : a = b := Y8 heq hinv.2 hge
   refine I4 ?_
   refine A3 (A2 ?_)
   refine A1 rfl rfl rfl (C3 rfl F5) ?_
   refine A4 ?_
   refine C8 ?_
   exact I2 rfl (D1 rfl (by exact congrArg AV.bool (by simp [hab])))
end Go.Proofs.YtnlhbdkcgaeimaaGreat

set_option linter.unusedVariables false
set_option linter.unusedSimpArgs false
set_option maxRecDepth 100000
set_option maxHeartbeats 1000000
namespace Go.Proofs.YtnlhbdkcgaeimaaGreat
open Go Go.AV Go.M
attribute [local irreducible] OpW OpA OpS AWP FSpec ESpec GSpec OpE RetOk RetOkG RvDen Le Ev GuardIs SrcIs Int.tmod IntKind.wrap bandI
end Go.Proofs.YtnlhbdkcgaeimaaGreat

set_option linter.unusedVariables false
set_option linter.unusedSimpArgs false
set_option maxRecDepth 100000
set_option maxHeartbeats 2000000
namespace Go.M
open Go.AV
theorem told_row {l : List TTold} (h : 0 < l.length) : ∃ t, l[0]? = some t ∧ (l.map TTold.cs)[(0 : Int).toNat]? = some t.cs := by
  obtain ⟨t, ht⟩ := get_some h
  exact ⟨t, ht, by show (l.map TTold.cs)[0]? = _; rw [List.getElem?_map, ht]; rfl⟩
end Go.M
namespace Go.Proofs.YtnlhbdkcgaeimaaGreat
open Go Go.AV Go.M
attribute [local irreducible] OpW OpA OpS AWP FSpec ESpec GSpec OpE RetOk RetOkG RvDen Le Ev GuardIs SrcIs SrcE Int.tmod Int.tdiv IntKind.wrap bandI
theorem s8 (b : Nat) (code : List Int) (hcode : ByteL code) (c : TCur) (hp : c.p ≤ 800000) : GSpec Tryz.prog 99 [AV.ptr b 0] [.box b 127 (curC code c)] (fun x : TCur × TState => x.1.p ≤ c.p + 1310 ∧ x.2.size ≤ 33045 ∧ SB 100001 x.2) (fun x => [.box b 127 (curC code x.1)]) (fun x => AV.agg x.2.cs) := by
 refine J3 Tryz.func99 rfl Tryz.ntmps99 rfl ?_
 refine A3 (A2 ?_)
 refine F4 rfl rfl rfl rfl Tryz.zeroValue30 rfl ?_
 intro b2
 refine A4 (A3 (A2 ?_))
 refine A6 rfl rfl rfl rfl rfl ?_
 refine I8 [1] rfl rfl rfl rfl Tryz.call196 rfl (Ap4 _ _ hcode _ (by omega)) (A7 (A0 rfl) D2) rfl ?_
 intro x5 ok5
 obtain ⟨hp5, hso, ⟨hf5, hl5⟩, hs5⟩ := ok5
 obtain ⟨q1, q2, q3, q4, q5⟩ := R8 hs5
 refine F4 rfl rfl rfl rfl Tryz.zeroValue30 rfl ?_
 intro b3
 refine D3 0 rfl rfl rfl (A0 rfl) (A0 rfl) (D8 _) rfl A8 rfl ?_
 refine A4 (A3 (A3 ?_))
 refine H9 (by first | (simp only [TState.ow, TState.ocs, pick, L5, L1, L2, K9, L3, List.nil_append, L6, L7, List.append_nil, L0, List.take_zero, L4, List.drop_zero]; exact rfl) | exact rfl) ?_
 refine A2 ?_
 refine A6 rfl rfl rfl rfl rfl ?_
 refine I8 [1] rfl rfl rfl rfl Tryz.call100 rfl (Q2 _ _ hcode _ _ (by omega) (by omega)) (A7 (A0 rfl) (A7 C6 D2)) rfl ?_
 intro x7 ok7
 refine A4 (E1 (A3 (A2 ?_)))
 refine A1 rfl rfl rfl (N3 rfl (A0 rfl) C6) ?_
 refine C2 rfl rfl rfl rfl rfl ?_
 refine A4 ?_
 refine D0 (A0 rfl) ?_ ?_
 ·intro h8
  have k8 := M1 h8; try simp only [A5] at k8
  refine A2 ?_
  refine A6 rfl rfl rfl rfl rfl ?_
  refine A1 rfl rfl rfl (O1 rfl c0 C0 Tryz.zeroValue3 rfl rfl rfl rfl (E8 C6 (L9 _ _) (E8 C6 (L9 _ _) (E8 C6 (L9 _ _) (E8 C6 (L9 _ _) I5)))) rfl rfl) ?_
  refine I8 [0] rfl rfl rfl rfl Tryz.call129 rfl (s6 _ _ hcode _ ([(0), (1), (100000), (100001)] : List Int) (by decide) (by omega)) (A7 (A0 rfl) (A7 (A0 rfl) D2)) rfl ?_
  intro x12 ok12
  refine A1 rfl rfl rfl (B3 0 rfl B8 rfl C0 (A0 rfl) rfl) ?_
  refine I3 1 rfl rfl rfl (A0 rfl) (A0 rfl) (L9 _ _) rfl C0 rfl ?_
  refine A4 (A3 ?_)
  refine H9 (by first | (simp only [TState.ow, TState.ocs, pick, L5, L1, L2, K9, L3, List.nil_append, L6, L7, List.append_nil, L0, List.take_zero, L4, List.drop_zero]; exact rfl) | exact rfl) ?_
  refine A2 ?_
  refine A1 rfl rfl rfl (D9 1 rfl (A0 rfl) rfl C4 A8 rfl) ?_
  refine AF9 (d8 [2, 2] 42 rfl rfl (X8 (H6 N0 (H6 N0 (H6 (P0 (H2 (i := 0) rfl) K5) (H6 (P0 (H2 (i := 1) rfl) K5) U4))))) (U6 0 rfl rfl P6)) ?_
  refine D3 2 rfl rfl rfl (A0 rfl) (A0 rfl) (D8 _) rfl A8 rfl ?_
  refine A4 ?_
  refine C8 ?_
  (refine K0 [0] ((x12.1, ⟨x12.2, x5.2.1.Cells, x5.2.1.Held, x5.2.1.Told⟩)) ?_ rfl (by first | (dsimp only; rfl) | rfl) (P3 rfl (G3 (ys := _) 2 rfl rfl C4 A8 (by first | rfl | (dsimp only [TState.cs]; rw [List.map_append]; rfl)))); (have hsz9 : sizeL TCell.size x5.2.1.Cells + sizeL THeld.size x5.2.1.Held + x5.2.1.Told.length ≤ 33044 := hs5; first | exact ⟨by dsimp only; omega, by show sizeL TCell.size _ + sizeL THeld.size _ + _ ≤ 33045; dsimp only; omega, ⟨⟨by dsimp only; omega, by dsimp only; omega⟩, hl5⟩⟩ | exact ⟨by dsimp only; omega, by show sizeL TCell.size _ + sizeL THeld.size _ + _ ≤ 33045; dsimp only; rw [K4]; simp only [B5, C1]; omega, ⟨⟨by dsimp only; omega, by dsimp only; omega⟩, hl5⟩⟩ | exact ⟨by dsimp only; omega, by show sizeL TCell.size _ + sizeL THeld.size _ + _ ≤ 33045; dsimp only; exact Nat.le_trans hsz9 (by decide), ⟨⟨by have h9 := ok12.2; simp at h9; dsimp only; omega, by have h9 := ok12.2; simp at h9; dsimp only; omega⟩, hl5⟩⟩ | exact ⟨by dsimp only; omega, by show sizeL TCell.size _ + sizeL THeld.size _ + _ ≤ 33045; (rw [hh0, M8] at hsz9; dsimp only; rw [M8]; exact Nat.le_trans hsz9 (by decide)), ⟨⟨by dsimp only; omega, by dsimp only; omega⟩, fun k hk => by (rcases List.mem_cons.1 hk with rfl | hk; (exact hl5 h0 (by rw [hh0]; exact List.mem_cons_self)); (exact hl5 k (by rw [hh0]; exact List.mem_cons_of_mem _ hk)))⟩⟩))
 ·intro h8
  have k8 := M0 h8; try simp only [A5] at k8
  refine A3 (A2 ?_)
  refine A1 rfl rfl rfl (N3 rfl (A0 rfl) C6) ?_
  refine C2 rfl rfl rfl rfl rfl ?_
  refine A4 ?_
  refine D0 (A0 rfl) ?_ ?_
  ·intro h14
   have k14 := M1 h14; try simp only [A5] at k14
   refine A3 (A2 ?_)
   refine A1 rfl rfl rfl (B3 2 rfl B8 rfl F0 (A0 rfl) rfl) ?_
   refine A1 rfl rfl rfl (B2 1 rfl (A0 rfl) rfl H1 rfl) ?_
   refine A1 rfl rfl rfl (V4 2 rfl C9 (A0 rfl) rfl) ?_
   refine A1 rfl rfl rfl (P4 rfl (A0 rfl) C6) ?_
   refine A4 ?_
   refine D0 (A0 rfl) ?_ ?_
   ·intro h19
    have k19 := of_decide_eq_true h19; try simp only [A5] at k19
    obtain ⟨h0, hs0, hh0⟩ : ∃ h0 hs0, x5.2.1.Held = h0 :: hs0 := by (cases hm : x5.2.1.Held with | nil => (rw [hm] at h19; simp at h19) | cons y q => exact ⟨y, q, rfl⟩)
    have hA : ([] : List (List AV)).length = (0 : Int).toNat := rfl
    rw [show x5.2.1.Held.map THeld.cs = [] ++ h0.cs :: hs0.map THeld.cs from by rw [hh0]; rfl]
    refine AWP.le (H7 [1, 1] rfl) ?_
    refine P5 _ [(0, false), (1, false), (2, false), (3, false), (4, true)] (by kernel_rfl) (by kernel_rfl) rfl (N8 2) ?_
    refine F2 rfl rfl rfl (fun ext => B3 2 rfl B8 rfl F0 (A0 rfl) rfl) ?_
    refine F2 rfl rfl rfl (fun ext => B2 0 rfl (A0 rfl) rfl H1 rfl) ?_
    refine F2 rfl rfl rfl (fun ext => C7 rfl (A0 rfl)) ?_
    refine F2 rfl rfl rfl (fun ext => O1 rfl c0 C0 Tryz.zeroValue3 rfl rfl rfl rfl (E8 C6 (L9 _ _) (E8 C6 (L9 _ _) (E8 C6 (L9 _ _) I5))) rfl rfl) ?_
    refine T1 rfl rfl rfl (V8 [2] rfl Tryz.call129 rfl (s6 _ _ hcode _ ([(0), (1), (100)] : List Int) (by decide) (by omega)) (A7 (A0 rfl) (A7 (A0 rfl) D2)) rfl) (fun a _ => (by first | exact E9 rfl | exact E9 (List.append_assoc _ _ _) | exact H5)) ?_
    intro x24 ok24
    refine X1 ?_
    refine A1 rfl rfl rfl (U3 1 rfl C9 D4 (A0 rfl) rfl C6 (by omega) (by simp)) ?_
    refine A1 rfl rfl rfl (c8 1 rfl E7 rfl C0 (A0 rfl) rfl rfl (W3 hA)) ?_
    refine l6 1 rfl rfl rfl (A0 rfl) (A0 rfl) (L9 _ _) rfl C0 hA rfl ?_
    refine A4 (A3 ?_)
    refine H9 (by first | (simp only [TState.ow, TState.ocs, pick, L5, L1, L2, K9, L3, List.nil_append, L6, L7, List.append_nil, L0, List.take_zero, L4, List.drop_zero]; exact rfl) | exact rfl) ?_
    refine A2 ?_
    refine A1 rfl rfl rfl (D9 0 rfl (A0 rfl) rfl C4 A8 rfl) ?_
    refine AF9 (d8 [1, 1] 42 rfl rfl (X8 (H6 N0 (H6 N0 (H6 (P0 (H2 (i := 0) rfl) K5) (H6 (P0 (H2 (i := 1) rfl) K5) U4))))) (U6 2 rfl rfl P6)) ?_
    refine D3 1 rfl rfl rfl (A0 rfl) (A0 rfl) (D8 _) rfl A8 rfl ?_
    refine A4 ?_
    refine C8 ?_
    (refine K0 [2] ((x24.1, ⟨x5.2.1.Floor, x5.2.1.Cells, ⟨h0.Txn, x24.2, h0.Lead, h0.Reads, h0.Writes⟩ :: hs0, x5.2.1.Told⟩)) ?_ rfl (by first | (dsimp only; rfl) | rfl) (P3 rfl (G3 (ys := _) 1 rfl rfl C4 A8 (by first | rfl | (dsimp only [TState.cs]; rw [List.map_append]; rfl)))); (have hsz9 : sizeL TCell.size x5.2.1.Cells + sizeL THeld.size x5.2.1.Held + x5.2.1.Told.length ≤ 33044 := hs5; first | exact ⟨by dsimp only; omega, by show sizeL TCell.size _ + sizeL THeld.size _ + _ ≤ 33045; dsimp only; omega, ⟨⟨by dsimp only; omega, by dsimp only; omega⟩, hl5⟩⟩ | exact ⟨by dsimp only; omega, by show sizeL TCell.size _ + sizeL THeld.size _ + _ ≤ 33045; dsimp only; rw [K4]; simp only [B5, C1]; omega, ⟨⟨by dsimp only; omega, by dsimp only; omega⟩, hl5⟩⟩ | exact ⟨by dsimp only; omega, by show sizeL TCell.size _ + sizeL THeld.size _ + _ ≤ 33045; dsimp only; exact Nat.le_trans hsz9 (by decide), ⟨⟨by have h9 := ok12.2; simp at h9; dsimp only; omega, by have h9 := ok12.2; simp at h9; dsimp only; omega⟩, hl5⟩⟩ | exact ⟨by dsimp only; omega, by show sizeL TCell.size _ + sizeL THeld.size _ + _ ≤ 33045; (rw [hh0, M8] at hsz9; dsimp only; rw [M8]; exact Nat.le_trans hsz9 (by decide)), ⟨⟨by dsimp only; omega, by dsimp only; omega⟩, fun k hk => by (rcases List.mem_cons.1 hk with rfl | hk; (exact hl5 h0 (by rw [hh0]; exact List.mem_cons_self)); (exact hl5 k (by rw [hh0]; exact List.mem_cons_of_mem _ hk)))⟩⟩))
   ·intro h19
    have k19 := of_decide_eq_false h19; try simp only [A5] at k19
    refine D5 (A3 ?_)
    refine H9 (by first | (simp only [TState.ow, TState.ocs, pick, L5, L1, L2, K9, L3, List.nil_append, L6, L7, List.append_nil, L0, List.take_zero, L4, List.drop_zero]; exact rfl) | exact rfl) ?_
    refine A2 ?_
    refine A1 rfl rfl rfl (D9 1 rfl (A0 rfl) rfl C4 A8 rfl) ?_
    refine AF9 (d8 [2, 2] 42 rfl rfl (X8 (H6 N0 (H6 N0 (H6 (P0 (H2 (i := 0) rfl) K5) (H6 (P0 (H2 (i := 1) rfl) K5) U4))))) (U6 0 rfl rfl P6)) ?_
    refine D3 2 rfl rfl rfl (A0 rfl) (A0 rfl) (D8 _) rfl A8 rfl ?_
    refine A4 ?_
    refine C8 ?_
    (refine K0 [0] ((x7.1, x5.2.1)) ?_ rfl (by first | (dsimp only; rfl) | rfl) (P3 rfl (G3 (ys := _) 2 rfl rfl C4 A8 (by first | rfl | (dsimp only [TState.cs]; rw [List.map_append]; rfl)))); (have hsz9 : sizeL TCell.size x5.2.1.Cells + sizeL THeld.size x5.2.1.Held + x5.2.1.Told.length ≤ 33044 := hs5; first | exact ⟨by dsimp only; omega, by show sizeL TCell.size _ + sizeL THeld.size _ + _ ≤ 33045; dsimp only; omega, ⟨⟨by dsimp only; omega, by dsimp only; omega⟩, hl5⟩⟩ | exact ⟨by dsimp only; omega, by show sizeL TCell.size _ + sizeL THeld.size _ + _ ≤ 33045; dsimp only; rw [K4]; simp only [B5, C1]; omega, ⟨⟨by dsimp only; omega, by dsimp only; omega⟩, hl5⟩⟩ | exact ⟨by dsimp only; omega, by show sizeL TCell.size _ + sizeL THeld.size _ + _ ≤ 33045; dsimp only; exact Nat.le_trans hsz9 (by decide), ⟨⟨by have h9 := ok12.2; simp at h9; dsimp only; omega, by have h9 := ok12.2; simp at h9; dsimp only; omega⟩, hl5⟩⟩ | exact ⟨by dsimp only; omega, by show sizeL TCell.size _ + sizeL THeld.size _ + _ ≤ 33045; (rw [hh0, M8] at hsz9; dsimp only; rw [M8]; exact Nat.le_trans hsz9 (by decide)), ⟨⟨by dsimp only; omega, by dsimp only; omega⟩, fun k hk => by (rcases List.mem_cons.1 hk with rfl | hk; (exact hl5 h0 (by rw [hh0]; exact List.mem_cons_self)); (exact hl5 k (by rw [hh0]; exact List.mem_cons_of_mem _ hk)))⟩⟩))
  ·intro h14
   have k14 := M0 h14; try simp only [A5] at k14
   refine A3 (A2 ?_)
   refine A1 rfl rfl rfl (N3 rfl (A0 rfl) C6) ?_
   refine C2 rfl rfl rfl rfl rfl ?_
   refine A4 ?_
   refine D0 (A0 rfl) ?_ ?_
   ·intro h27
    have k27 := M1 h27; try simp only [A5] at k27
    refine A3 (A2 ?_)
    refine A1 rfl rfl rfl (B3 3 rfl B8 rfl J1 (A0 rfl) rfl) ?_
    refine A1 rfl rfl rfl (B2 1 rfl (A0 rfl) rfl N5 rfl) ?_
    refine A1 rfl rfl rfl (V4 3 rfl E5 (A0 rfl) rfl) ?_
    refine A1 rfl rfl rfl (P4 rfl (A0 rfl) C6) ?_
    refine A4 ?_
    refine D0 (A0 rfl) ?_ ?_
    ·intro h32
     have k32 := of_decide_eq_true h32; try simp only [A5] at k32
     obtain ⟨t0, ht0, htrow⟩ := told_row (l := x5.2.1.Told) (by simpa using h32)
     refine Q6 7 (by kernel_rfl) (by kernel_rfl) rfl ?_
     refine B4 rfl rfl (B3 3 rfl B8 rfl J1 (A0 rfl) rfl) ?_
     refine B4 rfl rfl (B2 1 rfl (A0 rfl) rfl N5 rfl) ?_
     refine B4 rfl rfl (B3 3 rfl B8 rfl J1 (A0 rfl) rfl) ?_
     refine B4 rfl rfl (B2 1 rfl (A0 rfl) rfl N5 rfl) ?_
     refine B4 rfl rfl (U3 3 rfl E5 F9 (A0 rfl) rfl C6 (by omega) (by have h9 := (List.getElem?_eq_some_iff.1 ht0).1; first | omega | (simp only [A5]; omega))) ?_
     refine B4 rfl rfl (r9 3 rfl (A0 rfl) rfl P7 F9 htrow (by decide)) ?_
     refine B4 rfl rfl (O1 rfl E5 F9 Tryz.zeroValue39 rfl rfl rfl rfl (E8 (A0 rfl) (D8 _) I5) rfl rfl) ?_
     refine O5 ?_
     refine N6 (by' := 24) 3 rfl rfl rfl rfl E5 Tryz.type39 rfl rfl rfl rfl rfl rfl (A0 rfl) (A0 rfl) rfl (by first | omega | (simp only [A5, B1, B5, C1, B0, szR] at *; omega)) ?_
     intro v40_1
     refine A1 rfl rfl rfl (B3 3 rfl B8 rfl J1 (A0 rfl) rfl) ?_
     refine R9 3 rfl fun one_v40_1 => ?_
     refine I3 1 rfl rfl rfl (A0 rfl) (A0 rfl) (S4 one_v40_1) rfl J1 rfl ?_
     refine A4 (A3 ?_)
     refine H9 (by first | (simp only [TState.ow, TState.ocs, pick, L5, L1, L2, K9, L3, List.nil_append, L6, L7, List.append_nil, L0, List.take_zero, L4, List.drop_zero]; exact rfl) | exact rfl) ?_
     refine A2 ?_
     refine A1 rfl rfl rfl (D9 1 rfl (A0 rfl) rfl C4 A8 rfl) ?_
     refine AF9 (d8 [2, 2] 42 rfl rfl (X8 (H6 N0 (H6 N0 (H6 (P0 (H2 (i := 0) rfl) K5) (H6 (P0 (H2 (i := 1) rfl) K5) U4))))) (U6 0 rfl rfl P6)) ?_
     refine D3 2 rfl rfl rfl (A0 rfl) (A0 rfl) (D8 _) rfl A8 rfl ?_
     refine A4 ?_
     refine C8 ?_
     (refine K0 [0] ((x7.1, ⟨x5.2.1.Floor, x5.2.1.Cells, x5.2.1.Held, x5.2.1.Told ++ [t0]⟩)) ?_ rfl (by first | (dsimp only; rfl) | rfl) (P3 rfl (G3 (ys := _) 2 rfl rfl C4 A8 (by first | rfl | (dsimp only [TState.cs]; rw [List.map_append]; rfl)))); (have hsz9 : sizeL TCell.size x5.2.1.Cells + sizeL THeld.size x5.2.1.Held + x5.2.1.Told.length ≤ 33044 := hs5; first | exact ⟨by dsimp only; omega, by show sizeL TCell.size _ + sizeL THeld.size _ + _ ≤ 33045; dsimp only; omega, ⟨⟨by dsimp only; omega, by dsimp only; omega⟩, hl5⟩⟩ | exact ⟨by dsimp only; omega, by show sizeL TCell.size _ + sizeL THeld.size _ + _ ≤ 33045; dsimp only; rw [K4]; simp only [B5, C1]; omega, ⟨⟨by dsimp only; omega, by dsimp only; omega⟩, hl5⟩⟩ | exact ⟨by dsimp only; omega, by show sizeL TCell.size _ + sizeL THeld.size _ + _ ≤ 33045; dsimp only; exact Nat.le_trans hsz9 (by decide), ⟨⟨by have h9 := ok12.2; simp at h9; dsimp only; omega, by have h9 := ok12.2; simp at h9; dsimp only; omega⟩, hl5⟩⟩ | exact ⟨by dsimp only; omega, by show sizeL TCell.size _ + sizeL THeld.size _ + _ ≤ 33045; (rw [hh0, M8] at hsz9; dsimp only; rw [M8]; exact Nat.le_trans hsz9 (by decide)), ⟨⟨by dsimp only; omega, by dsimp only; omega⟩, fun k hk => by (rcases List.mem_cons.1 hk with rfl | hk; (exact hl5 h0 (by rw [hh0]; exact List.mem_cons_self)); (exact hl5 k (by rw [hh0]; exact List.mem_cons_of_mem _ hk)))⟩⟩))
    ·intro h32
     have k32 := of_decide_eq_false h32; try simp only [A5] at k32
     refine D5 (A3 ?_)
     refine H9 (by first | (simp only [TState.ow, TState.ocs, pick, L5, L1, L2, K9, L3, List.nil_append, L6, L7, List.append_nil, L0, List.take_zero, L4, List.drop_zero]; exact rfl) | exact rfl) ?_
     refine A2 ?_
     refine A1 rfl rfl rfl (D9 1 rfl (A0 rfl) rfl C4 A8 rfl) ?_
     refine AF9 (d8 [2, 2] 42 rfl rfl (X8 (H6 N0 (H6 N0 (H6 (P0 (H2 (i := 0) rfl) K5) (H6 (P0 (H2 (i := 1) rfl) K5) U4))))) (U6 0 rfl rfl P6)) ?_
     refine D3 2 rfl rfl rfl (A0 rfl) (A0 rfl) (D8 _) rfl A8 rfl ?_
     refine A4 ?_
     refine C8 ?_
     (refine K0 [0] ((x7.1, x5.2.1)) ?_ rfl (by first | (dsimp only; rfl) | rfl) (P3 rfl (G3 (ys := _) 2 rfl rfl C4 A8 (by first | rfl | (dsimp only [TState.cs]; rw [List.map_append]; rfl)))); (have hsz9 : sizeL TCell.size x5.2.1.Cells + sizeL THeld.size x5.2.1.Held + x5.2.1.Told.length ≤ 33044 := hs5; first | exact ⟨by dsimp only; omega, by show sizeL TCell.size _ + sizeL THeld.size _ + _ ≤ 33045; dsimp only; omega, ⟨⟨by dsimp only; omega, by dsimp only; omega⟩, hl5⟩⟩ | exact ⟨by dsimp only; omega, by show sizeL TCell.size _ + sizeL THeld.size _ + _ ≤ 33045; dsimp only; rw [K4]; simp only [B5, C1]; omega, ⟨⟨by dsimp only; omega, by dsimp only; omega⟩, hl5⟩⟩ | exact ⟨by dsimp only; omega, by show sizeL TCell.size _ + sizeL THeld.size _ + _ ≤ 33045; dsimp only; exact Nat.le_trans hsz9 (by decide), ⟨⟨by have h9 := ok12.2; simp at h9; dsimp only; omega, by have h9 := ok12.2; simp at h9; dsimp only; omega⟩, hl5⟩⟩ | exact ⟨by dsimp only; omega, by show sizeL TCell.size _ + sizeL THeld.size _ + _ ≤ 33045; (rw [hh0, M8] at hsz9; dsimp only; rw [M8]; exact Nat.le_trans hsz9 (by decide)), ⟨⟨by dsimp only; omega, by dsimp only; omega⟩, fun k hk => by (rcases List.mem_cons.1 hk with rfl | hk; (exact hl5 h0 (by rw [hh0]; exact List.mem_cons_self)); (exact hl5 k (by rw [hh0]; exact List.mem_cons_of_mem _ hk)))⟩⟩))
   ·intro h27
    have k27 := M0 h27; try simp only [A5] at k27
    refine D5 (A3 ?_)
    refine H9 (by first | (simp only [TState.ow, TState.ocs, pick, L5, L1, L2, K9, L3, List.nil_append, L6, L7, List.append_nil, L0, List.take_zero, L4, List.drop_zero]; exact rfl) | exact rfl) ?_
    refine A2 ?_
    refine A1 rfl rfl rfl (D9 1 rfl (A0 rfl) rfl C4 A8 rfl) ?_
    refine AF9 (d8 [2, 2] 42 rfl rfl (X8 (H6 N0 (H6 N0 (H6 (P0 (H2 (i := 0) rfl) K5) (H6 (P0 (H2 (i := 1) rfl) K5) U4))))) (U6 0 rfl rfl P6)) ?_
    refine D3 2 rfl rfl rfl (A0 rfl) (A0 rfl) (D8 _) rfl A8 rfl ?_
    refine A4 ?_
    refine C8 ?_
    (refine K0 [0] ((x7.1, x5.2.1)) ?_ rfl (by first | (dsimp only; rfl) | rfl) (P3 rfl (G3 (ys := _) 2 rfl rfl C4 A8 (by first | rfl | (dsimp only [TState.cs]; rw [List.map_append]; rfl)))); (have hsz9 : sizeL TCell.size x5.2.1.Cells + sizeL THeld.size x5.2.1.Held + x5.2.1.Told.length ≤ 33044 := hs5; first | exact ⟨by dsimp only; omega, by show sizeL TCell.size _ + sizeL THeld.size _ + _ ≤ 33045; dsimp only; omega, ⟨⟨by dsimp only; omega, by dsimp only; omega⟩, hl5⟩⟩ | exact ⟨by dsimp only; omega, by show sizeL TCell.size _ + sizeL THeld.size _ + _ ≤ 33045; dsimp only; rw [K4]; simp only [B5, C1]; omega, ⟨⟨by dsimp only; omega, by dsimp only; omega⟩, hl5⟩⟩ | exact ⟨by dsimp only; omega, by show sizeL TCell.size _ + sizeL THeld.size _ + _ ≤ 33045; dsimp only; exact Nat.le_trans hsz9 (by decide), ⟨⟨by have h9 := ok12.2; simp at h9; dsimp only; omega, by have h9 := ok12.2; simp at h9; dsimp only; omega⟩, hl5⟩⟩ | exact ⟨by dsimp only; omega, by show sizeL TCell.size _ + sizeL THeld.size _ + _ ≤ 33045; (rw [hh0, M8] at hsz9; dsimp only; rw [M8]; exact Nat.le_trans hsz9 (by decide)), ⟨⟨by dsimp only; omega, by dsimp only; omega⟩, fun k hk => by (rcases List.mem_cons.1 hk with rfl | hk; (exact hl5 h0 (by rw [hh0]; exact List.mem_cons_self)); (exact hl5 k (by rw [hh0]; exact List.mem_cons_of_mem _ hk)))⟩⟩))
end Go.Proofs.YtnlhbdkcgaeimaaGreat

set_option linter.unusedVariables false
set_option linter.unusedSimpArgs false
namespace Go.AV
open Go.ChangeShapes Go.WideShapes Go.ChangeAt Go.RowKit

def heapR (w : World) : RHeap := fun b => w.heap[b]?
theorem heapR_le (w : World) : RLe (heapR w) w := fun _ _ h => h
theorem Ay2 {w : World} {a : Addr} {v : Value} (h : w.cell? a = some v) : rcell (heapR w) a = some v := h

def Opens (P : Program) (t : TypeId) (α : Type) (enc : α → List AV) (ok : α → Prop) : Prop :=
  ∀ (H : Type) (en : TypeId × Value → H) (w : World) (base : Nat) (spare : Nat → Bool) (held : Bool) (fuel : Nat) (cs : List Value) (x : DataW H × List MemPlace),
    DataW.trod en P w base spare held fuel t cs = some x → ∃ a : α, ok a ∧ DenC (heapR w) cs (enc a)
theorem AX2 {R : RHeap} {v : Value} {x : AV} (h : x.den R v) (h1 : v.oneCell' = true) : DenC R [v] [x] :=
  ⟨rfl, fun i u y hu hy => by
    cases i with
    | zero => simp at hu hy; subst hu; subst hy; exact ⟨h, h1⟩
    | succ i => simp at hu⟩
section
variable {P : Program} {t e : TypeId}
theorem BB4 {k : IntKind} (ht : P.underlying t = some (.int k)) : Opens P t Int (fun n => [AV.ik k n]) (fun n => (Lit.int k n).wf = true) := fun H en w base spare held fuel cs x h => by
  obtain ⟨n, rfl, _, hw⟩ := DataW.trod_int ht h
  exact ⟨n, hw, AX2 rfl rfl⟩
theorem Au7 {α : Type} {p : Nat → α → Prop} : ∀ n, (∀ i, i < n → ∃ a, p i a) → ∃ l : List α, l.length = n ∧ ∀ (i : Nat) (a : α), l[i]? = some a → p i a
  | 0, _ => ⟨[], rfl, fun i a h => by simp at h⟩
  | n + 1, h => by
    obtain ⟨l, h1, h2⟩ := Au7 n fun i hi => h i (by omega)
    obtain ⟨a, ha⟩ := h n (by omega)
    refine ⟨l ++ [a], by simp [h1], fun i b hb => ?_⟩
    by_cases hi : i < l.length
    · rw [List.getElem?_append_left hi] at hb; exact h2 i b hb
    · rw [List.getElem?_append_right (by omega)] at hb
      have hin : i = n := by
        have := (List.getElem?_eq_some_iff.1 hb).1
        simp at this; omega
      subst hin
      rw [h1] at hb; simp at hb; subst hb; exact ha
theorem As3 {α : Type} {enc : α → List AV} {ok : α → Prop} {sz : Nat} (ht : P.underlying t = some (.slice e)) (hc : P.cellsOf e = sz) (h : Opens P e α enc ok) (hl : ∀ a, (enc a).length = sz) :
    Opens P t (List α) (fun l => [AV.list sz (l.map enc)]) (fun l => ∀ a ∈ l, ok a) := fun H en w base spare held fuel cs x hx => by
  rcases DataW.trod_slice ht hx with ⟨rfl, _⟩ | ⟨a, len, cap, elems, rest, n, _, rfl, _, _, hlc, hcm, hel, hi, _, _⟩
  · exact ⟨[], by simp, AX2 ⟨none, 0, rfl, Nat.le_refl _, Nat.zero_le _, by simp, fun h => absurd rfl h⟩ rfl⟩
  · obtain ⟨l, h1, h2⟩ := Au7 (p := fun i b => ok b ∧ ∃ cs', w.cells? base (a.add (i * sz)) sz = some cs' ∧ DenC (heapR w) cs' (enc b)) len fun i hil => by
      have := hi i hil
      rw [hc, List.getElem?_eq_getElem (by omega)] at this
      obtain ⟨cs', hcs, htr⟩ := Option.bind_eq_some_iff.1 this
      obtain ⟨b, hb, hd⟩ := h H en w base spare held n cs' _ htr
      exact ⟨b, hb, cs', hcs, hd⟩
    refine ⟨l, fun b hb => ?_, AX2 ⟨some a, cap, by rw [A5, h1], by rw [A5, h1]; exact hlc, hcm, fun ec he => ?_, fun _ => ⟨a, rfl, fun j y hy => ?_⟩⟩ rfl⟩
    · obtain ⟨i, hib⟩ := List.getElem?_of_mem hb
      exact (h2 i b hib).1
    · obtain ⟨b, _, rfl⟩ := List.mem_map.1 he
      exact hl b
    · have hun : ∀ ec ∈ l.map enc, ec.length = sz := fun ec he => by
        obtain ⟨b, _, rfl⟩ := List.mem_map.1 he
        exact hl b
      have hjl : j < l.length * sz := by
        have := (List.getElem?_eq_some_iff.1 hy).1
        rwa [V5 hun, A5] at this
      have hsz : 0 < sz := by
        rcases Nat.eq_zero_or_pos sz with h0 | h0
        · subst h0; omega
        · exact h0
      have hij : j / sz < l.length := Nat.div_lt_of_lt_mul (by rw [Nat.mul_comm]; exact hjl)
      have hkm : j % sz < sz := Nat.mod_lt _ hsz
      have hjj : j / sz * sz + j % sz = j := by rw [Nat.mul_comm]; exact Nat.div_add_mod j sz
      have hb : l[j / sz]? = some l[j / sz] := List.getElem?_eq_getElem hij
      obtain ⟨_, cs', hcs, hd⟩ := h2 _ _ hb
      obtain ⟨_, hcl, hat⟩ := World.cells?_some hcs
      have hk : (enc l[j / sz])[j % sz]? = some ((enc l[j / sz])[j % sz]'(by rw [hl]; exact hkm)) := List.getElem?_eq_getElem _
      have hyk := e7 hun (i := j / sz) (e := enc l[j / sz]) (by rw [List.getElem?_map, hb]; rfl) hk
      rw [hjj, hy] at hyk
      injection hyk with hyk
      have hv : cs'[j % sz]? = some (cs'[j % sz]'(by rw [hcl]; exact hkm)) := List.getElem?_eq_getElem _
      have hcell := hat (j % sz) hkm
      rw [hv, AI1, hjj] at hcell
      refine ⟨_, Ay2 hcell, ?_⟩
      have := hd.2 _ _ _ hv hk
      rw [hyk]; exact this
theorem Au8 {H : Type} {en : TypeId × Value → H} {W : World} {base : Nat} {spare : Nat → Bool} {held : Bool} {α : Type} {enc : α → AV} {ok : α → Prop} {v : Value} {d : DataW H} {p : List MemPlace}
    (h : Opens P t α (fun a => [enc a]) ok) (h1 : v.cells = #[v]) (hd : DataW.Trod en P W base spare held t v d p) : ∃ a, ok a ∧ (enc a).den (heapR W) v := by
  obtain ⟨fuel, hf⟩ := hd
  rw [h1] at hf
  obtain ⟨a, h2, h3⟩ := h H en W base spare held fuel _ _ hf
  exact ⟨a, h2, (h3.2 0 v _ rfl rfl).1⟩
theorem BB5 {f : FuncId} {xs : List AV} {b : Bool} {W : World} {vs : List Value} (h : FSpec P f xs (AV.bool b)) (hd : DenV (heapR W) vs xs) :
    Calls P f vs.toArray W fun e w' => e = .returned (.bool b) ∧ Below W.heap.size W w' :=
  (h (heapR W) W vs (heapR_le W) hd).mono fun e w' ⟨v, R', h1, h2, _, _, h5⟩ => ⟨by rw [h1]; exact congrArg Ending.returned h2, h5⟩
end
end Go.AV

set_option linter.unusedVariables false
set_option linter.unusedSimpArgs false
namespace Go.AV
section
variable {P : Program} {G : Nat → Prop} {n : Nat} {own : List Own} {o : Oper} {E : EnvF}
end
end Go.AV

set_option linter.unusedVariables false
set_option linter.unusedSimpArgs false
namespace Go.AV
open Go.RowKit (Below)
section
variable {P : Program} {G : Nat → Prop} {n : Nat} {own : List Own} {o : Oper} {E : EnvF}
end
end Go.AV

set_option linter.unusedVariables false
set_option linter.unusedSimpArgs false
set_option maxRecDepth 100000
set_option maxHeartbeats 2000000
namespace Go.Proofs.YtnlhbdkcgaeimaaGreat
open Go Go.AV Go.M
attribute [local irreducible] OpW OpA OpS AWP FSpec ESpec GSpec OpE RetOk RetOkG RvDen Le Ev GuardIs SrcIs SrcE Int.tmod Int.tdiv IntKind.wrap bandI
theorem AX3 (code : List Int) (hcode : ByteL code) : GSpec Tryz.prog 9 [bytesI code] [] (fun x : List TRec × Value => x.1.length ≤ 12 ∧ ∀ r ∈ x.1, r.size ≤ 1002) (fun x => [.arr x.2 49 7 (x.1.map TRec.cs)]) (fun x => AV.is x.2) := by
 refine J3 Tryz.func9 rfl Tryz.ntmps9 rfl ?_
 refine A3 (A2 ?_)
 refine A1 rfl rfl rfl (C3 rfl M6) ?_
 refine A4 (A3 (A2 ?_))
 refine A6 rfl rfl rfl rfl rfl ?_
 refine A1 rfl rfl rfl (N2 (places := #[(0, 1), (1, 1), (2, 1)]) rfl N9 Tryz.zeroValue127 (fun w => by kernel_rfl) rfl (E8 (A0 rfl) (T4 _ _) I5) rfl) ?_
 refine M7 rfl rfl rfl rfl (A0 rfl) ?_
 intro b7
 refine C2 rfl rfl rfl rfl rfl ?_
 refine A4 (A3 (A2 ?_))
 refine A6 rfl rfl rfl rfl rfl ?_
 refine I8 [0] rfl rfl rfl rfl Tryz.call78 rfl (AV0 _ _ hcode ⟨0, 0⟩ (by decide)) (A7 (A0 rfl) D2) rfl ?_
 intro x9 ok9
 have hp9 : x9.1.p ≤ 1300 := by (have h9 := ok9.1; dsimp only at h9; omega)
 refine C2 rfl rfl rfl rfl rfl ?_
 refine A4 (A3 (A3 (A2 ?_)))
 refine A6 rfl rfl rfl rfl rfl ?_
 refine I8 [0] rfl rfl rfl rfl Tryz.call79 rfl (e6 _ _ hcode _ _ (by omega) (by omega)) (A7 (A0 rfl) (A7 C6 D2)) rfl ?_
 intro x11 ok11
 refine A4 ?_
 refine D0 (A0 rfl) ?_ ?_
 ·intro h11
  refine A2 ?_
  refine A6 rfl rfl rfl rfl rfl ?_
  refine A6 rfl rfl rfl rfl rfl ?_
  refine I8 [0] rfl rfl rfl rfl Tryz.call80 rfl (AJ8 _ _ hcode _ (by omega)) (A7 (A0 rfl) D2) rfl ?_
  intro x14 ok14
  refine A1 rfl rfl rfl (O1 rfl K2 E0 Tryz.zeroValue49 rfl rfl rfl rfl (E8 (A0 rfl) (D8 _) I5) rfl rfl) ?_
  refine N6 (by' := 88) 1 rfl rfl rfl rfl K2 Tryz.type49 rfl rfl rfl rfl rfl rfl (A0 rfl) (A0 rfl) rfl (by first | omega | (simp only [A5, B1, B5, C1, B0, szR] at *; omega)) ?_
  intro v16_1
  refine C2 rfl rfl rfl rfl rfl ?_
  refine A4 (A3 (A2 ?_))
  refine A6 rfl rfl rfl rfl rfl ?_
  refine C2 rfl rfl rfl rfl rfl ?_
  refine A4 ?_
  refine C8 ?_
  (refine K0 [1] ((x9.2.1 ++ [x14.2], v16_1)) ?_ rfl (by first | rfl | (dsimp only; rw [List.map_append]; rfl)) (P3 rfl (D1 rfl (by rfl))); (have h8 := ok9.2.2; first | exact ⟨by dsimp only; omega, fun r hr => Nat.le_trans (h8 r hr).1 (by decide)⟩ | exact ⟨by dsimp only; rw [K4]; simp only [B5, C1]; omega, fun r hr => by (rcases List.mem_append.1 hr with hr | hr; (exact Nat.le_trans (h8 r hr).1 (by decide)); (rw [List.mem_singleton.1 hr]; exact ok14.2.1))⟩))
 ·intro h11
  refine D5 (A3 (A2 ?_))
  refine A6 rfl rfl rfl rfl rfl ?_
  refine C2 rfl rfl rfl rfl rfl ?_
  refine A4 ?_
  refine C8 ?_
  (refine K0 [1] ((x9.2.1, x9.2.2)) ?_ rfl (by first | rfl | (dsimp only; rw [List.map_append]; rfl)) (P3 rfl (D1 rfl (by rfl))); (have h8 := ok9.2.2; first | exact ⟨by dsimp only; omega, fun r hr => Nat.le_trans (h8 r hr).1 (by decide)⟩ | exact ⟨by dsimp only; rw [K4]; simp only [B5, C1]; omega, fun r hr => by (rcases List.mem_append.1 hr with hr | hr; (exact Nat.le_trans (h8 r hr).1 (by decide)); (rw [List.mem_singleton.1 hr]; exact ok14.2.1))⟩))
theorem Aa8 (code : List Int) (hcode : ByteL code) : GSpec Tryz.prog 9 [bytesI code] [] (fun x : List TRec => x.length ≤ 12 ∧ ∀ r ∈ x, r.size ≤ 1002) (fun x => []) (fun x => AV.list 7 (x.map TRec.cs)) :=
  y9 (fun x => x.1) (fun x => [.arr x.2 49 7 (x.1.map TRec.cs)]) (fun x => []) (AX3 code hcode) (fun _ h => h) (fun x _ => P0 (List.mem_singleton.2 rfl) K5) (fun x _ => List.Perm.refl _) (fun _ _ => P6) (fun x _ => AZ5)
theorem AF5 (code : List Int) (hcode : ByteL code) : GSpec Tryz.prog 18 [bytesI code] [] (fun x : TState × TRec => x.1.size ≤ 33045 ∧ x.2.size ≤ 1002) (fun x => []) (fun x => AV.tup [AV.agg x.1.cs, AV.agg x.2.cs]) := by
 refine J3 Tryz.func18 rfl Tryz.ntmps18 rfl ?_
 refine A3 (A2 ?_)
 refine F4 rfl rfl rfl rfl Tryz.zeroValue30 rfl ?_
 intro b2
 refine F4 rfl rfl rfl rfl Tryz.zeroValue49 rfl ?_
 intro b3
 refine A4 (A3 (A2 ?_))
 refine A6 rfl rfl rfl rfl rfl ?_
 refine A1 rfl rfl rfl (N2 (places := #[(0, 1), (1, 1), (2, 1)]) rfl N9 Tryz.zeroValue127 (fun w => by kernel_rfl) rfl (E8 (A0 rfl) (T4 _ _) I5) rfl) ?_
 refine M7 rfl rfl rfl rfl (A0 rfl) ?_
 intro b9
 refine C2 rfl rfl rfl rfl rfl ?_
 refine A4 (A3 (A2 ?_))
 refine A6 rfl rfl rfl rfl rfl ?_
 refine I8 [0] rfl rfl rfl rfl Tryz.call99 rfl (s8 _ _ hcode ⟨0, 0⟩ (by decide)) (A7 (A0 rfl) D2) rfl ?_
 intro x11 ok11
 have hp11 : x11.1.p ≤ 1310 := by (have h9 := ok11.1; dsimp only at h9; omega)
 have hfl := ok11.2.2.floor
 refine F4 rfl rfl rfl rfl Tryz.zeroValue30 rfl ?_
 intro b5
 refine D3 0 rfl rfl rfl (A0 rfl) (A0 rfl) (D8 _) rfl A8 rfl ?_
 refine A4 (A3 (A2 ?_))
 refine A6 rfl rfl rfl rfl rfl ?_
 refine I8 [1] rfl rfl rfl rfl Tryz.call80 rfl (AJ8 _ _ hcode _ (by omega)) (A7 (A0 rfl) D2) rfl ?_
 intro x13 ok13
 refine F4 rfl rfl rfl rfl Tryz.zeroValue49 rfl ?_
 intro b6
 refine D3 0 rfl rfl rfl (A0 rfl) (A0 rfl) (D8 _) rfl E0 rfl ?_
 refine A4 (A3 (A3 ?_))
 refine H9 (by first | (simp only [splice, pick, L5, L1, L2, K9, L3, List.nil_append, L6, L7, List.append_nil, L0, List.take_zero, L4, List.drop_zero]; exact rfl) | exact rfl) ?_
 refine A2 ?_
 refine A1 rfl rfl rfl (B3 2 rfl B6 rfl C0 (A0 rfl) rfl) ?_
 refine A1 rfl rfl rfl (B2 0 rfl (A0 rfl) rfl C5 rfl) ?_
 refine A1 rfl rfl rfl (P4 rfl (A0 rfl) C6) ?_
 refine A6 rfl rfl rfl rfl rfl ?_
 refine B7 rfl rfl (B9 rfl rfl rfl) (fun hc => C7 rfl (A0 rfl)) ?_
 refine n7 rfl rfl (B9 rfl rfl rfl) ?_ ?_
 ·intro gh19
  refine I8 [1] rfl rfl rfl rfl Tryz.call79 rfl (e6 _ _ hcode _ _ (by omega) (by omega)) (A7 (A9 rfl gh19) (A7 C6 D2)) rfl ?_
  intro x19 ok19
  refine A1 rfl rfl rfl (H8 rfl (A0 rfl) (evif (A0 rfl))) ?_
  refine A4 ?_
  refine D0 (A0 rfl) ?_ ?_
  ·intro h20
   refine H9 (by first | (simp only [splice, pick, L5, L1, L2, K9, L3, List.nil_append, L6, L7, List.append_nil, L0, List.take_zero, L4, List.drop_zero]; exact rfl) | exact rfl) ?_
   refine A2 ?_
   refine A1 rfl rfl rfl (B3 2 rfl B6 rfl C0 (A0 rfl) rfl) ?_
   refine A1 rfl rfl rfl (B2 1 rfl (A0 rfl) rfl C5 rfl) ?_
   refine A1 rfl rfl rfl (B3 0 rfl B8 rfl C0 (A0 rfl) rfl) ?_
   refine A1 rfl rfl rfl (B2 2 rfl (A0 rfl) rfl C5 rfl) ?_
   refine A1 rfl rfl rfl (H4 rfl (A0 rfl) (A0 rfl) (by omega)) ?_
   refine A1 rfl rfl rfl (B3 2 rfl B6 rfl C0 (A0 rfl) rfl) ?_
   refine I3 1 rfl rfl rfl (A0 rfl) (A0 rfl) (L9 _ _) rfl C0 rfl ?_
   refine A4 (A3 (A3 ?_))
   refine H9 (by first | (simp only [splice, pick, L5, L1, L2, K9, L3, List.nil_append, L6, L7, List.append_nil, L0, List.take_zero, L4, List.drop_zero]; exact rfl) | exact rfl) ?_
   refine A2 ?_
   refine A1 rfl rfl rfl (B3 2 rfl B8 rfl F0 (A0 rfl) rfl) ?_
   refine A1 rfl rfl rfl (B2 2 rfl (A0 rfl) rfl H1 rfl) ?_
   refine A1 rfl rfl rfl (G4 rfl C9 (A0 rfl)) ?_
   refine A1 rfl rfl rfl (P4 rfl (A0 rfl) C6) ?_
   refine A6 rfl rfl rfl rfl rfl ?_
   refine B7 rfl rfl (B9 rfl rfl rfl) (fun hc => B3 1 rfl B6 rfl C0 (A0 rfl) rfl) ?_
   refine B7 rfl rfl (B9 rfl rfl rfl) (fun hc => B2 1 rfl (A9 rfl hc) rfl C5 rfl) ?_
   refine B7 rfl rfl (B9 rfl rfl rfl) (fun hc => P4 rfl (A9 rfl hc) C6) ?_
   refine A1 rfl rfl rfl (H8 rfl (A0 rfl) (G2 rfl)) ?_
   refine A6 rfl rfl rfl rfl rfl ?_
   refine B7 rfl rfl (B9 rfl rfl rfl) (fun hc => C7 rfl (A0 rfl)) ?_
   refine n7 rfl rfl (B9 rfl rfl rfl) ?_ ?_
   ·intro gh38
    refine I8 [0] rfl rfl rfl rfl Tryz.call79 rfl (e6 _ _ hcode _ _ (by omega) (by omega)) (A7 (A9 rfl gh38) (A7 C6 D2)) rfl ?_
    intro x38 ok38
    refine A1 rfl rfl rfl (H8 rfl (A0 rfl) (evif (A0 rfl))) ?_
    refine A4 ?_
    refine D0 (A0 rfl) ?_ ?_
    ·intro h39
     have hll : x11.2.Held.length ≤ 33045 := by (have h9 := O8 (f := THeld.size) (l := x11.2.Held); have h8 := ok11.2.1; unfold TState.size at h8; omega)
     have hl0 : 0 < x11.2.Held.length := by (simp only [Bool.and_eq_true, decide_eq_true_eq, A5] at h39; omega)
     refine H9 (by first | (simp only [splice, pick, L5, L1, L2, K9, L3, List.nil_append, L6, L7, List.append_nil, L0, List.take_zero, L4, List.drop_zero]; exact rfl) | exact rfl) ?_
     refine AWP.le (H7 [2, 1, 2, 1, 0] rfl) ?_
     refine P5 _ [(0, false), (1, false), (2, false), (3, false), (4, false), (5, false), (6, true)] (by kernel_rfl) (by kernel_rfl) rfl (N8 1) ?_
     refine F2 rfl rfl rfl (fun ext => B3 2 rfl B8 rfl F0 (A0 rfl) rfl) ?_
     refine F2 rfl rfl rfl (fun ext => B2 0 rfl (A0 rfl) rfl H1 rfl) ?_
     refine F2 rfl rfl rfl (fun ext => C7 rfl (A0 rfl)) ?_
     refine F2 rfl rfl rfl (fun ext => B3 2 rfl B8 rfl F0 (A0 rfl) rfl) ?_
     refine F2 rfl rfl rfl (fun ext => B2 0 rfl (A0 rfl) rfl H1 rfl) ?_
     refine F2 rfl rfl rfl (fun ext => G4 rfl C9 (A0 rfl)) ?_
     refine T1 rfl rfl rfl (V8 [4] rfl Tryz.call100 rfl (Q2 _ _ hcode _ _ (by simp only [A5]; omega) (by omega)) (A7 (A0 rfl) (A7 (A0 rfl) D2)) rfl) (fun a _ => (by first | exact E9 rfl | exact E9 (List.append_assoc _ _ _) | exact H5)) ?_
     intro x46 ok46
     have hix : x46.2.toNat < x11.2.Held.length := by (have h9 := ok46.2; simp only [A5] at h9; omega)
     obtain ⟨z, hz⟩ := get_some hix
     have hrow : (x11.2.Held.map THeld.cs)[x46.2.toNat]? = some z.cs := by (rw [List.getElem?_map, hz]; rfl)
     refine X1 ?_
     refine A1 rfl rfl rfl (j6 rfl C9 D4 (A0 rfl) (A0 rfl) (by omega) (by first | omega | (simp only [A5]; omega))) ?_
     refine A1 rfl rfl rfl (V1 rfl E7 rfl C0 (A0 rfl) rfl) ?_
     refine A1 rfl rfl rfl (N4 rfl (A0 rfl) C5 rfl) ?_
     refine A1 rfl rfl rfl (B3 1 rfl B6 rfl C0 (A0 rfl) rfl) ?_
     refine I3 1 rfl rfl rfl (A0 rfl) (A0 rfl) (L9 _ _) rfl C0 rfl ?_
     refine A4 (A3 ?_)
     refine H9 (by first | (simp only [splice, pick, L5, L1, L2, K9, L3, List.nil_append, L6, L7, List.append_nil, L0, List.take_zero, L4, List.drop_zero]; exact rfl) | exact rfl) ?_
     refine AWP.le (H7 [0, 0, 0, 0] rfl) ?_
     refine M4 _ 3 (.pure 0 (.pure 1 (.e1 2 .nil))) (by kernel_rfl) (by kernel_rfl) rfl (N8 2) ?_
     refine G6 rfl rfl rfl (fun ext => D9 0 rfl (A0 rfl) rfl C4 A8 rfl) ?_
     refine G6 rfl rfl rfl (fun ext => D9 1 rfl (A0 rfl) rfl G5 E0 rfl) ?_
     refine S0 ?_
     refine V3 rfl rfl rfl (Q1 2 rfl rfl (A0 rfl) (A0 rfl) (D8 _) rfl A8 rfl) (fun a _ => (by first | exact E9 rfl | exact E9 (List.append_assoc _ _ _) | exact H5)) ?_
     intro _ _
     refine S6 ?_
     refine D3 3 rfl rfl rfl (A0 rfl) (A0 rfl) (D8 _) rfl E0 rfl ?_
     refine A4 ?_
     refine C8 ?_
     (refine K0 [] ((x11.2, ⟨x13.2.Kind, z.Txn, x13.2.Time + x11.2.Floor, x13.2.Lead, x13.2.Reads, x13.2.Writes, x13.2.Yes⟩)) ?_ rfl (by first | (dsimp only; rfl) | rfl) (Q3 rfl (by decide) (E4 (G3 (ys := _) 2 rfl rfl C4 A8 rfl) (E4 (G3 (ys := _) 3 rfl rfl G5 E0 rfl) J6))); exact ⟨ok11.2.1, ok13.2.1⟩)
    ·intro h39
     refine D5 (A3 ?_)
     refine H9 (by first | (simp only [splice, pick, L5, L1, L2, K9, L3, List.nil_append, L6, L7, List.append_nil, L0, List.take_zero, L4, List.drop_zero]; exact rfl) | exact rfl) ?_
     refine AWP.le (H7 [2, 1, 2, 1] rfl) ?_
     refine M4 _ 3 (.pure 0 (.pure 1 (.e1 2 .nil))) (by kernel_rfl) (by kernel_rfl) rfl (N8 2) ?_
     refine G6 rfl rfl rfl (fun ext => D9 0 rfl (A0 rfl) rfl C4 A8 rfl) ?_
     refine G6 rfl rfl rfl (fun ext => D9 1 rfl (A0 rfl) rfl G5 E0 rfl) ?_
     refine S0 ?_
     refine V3 rfl rfl rfl (Q1 2 rfl rfl (A0 rfl) (A0 rfl) (D8 _) rfl A8 rfl) (fun a _ => (by first | exact E9 rfl | exact E9 (List.append_assoc _ _ _) | exact H5)) ?_
     intro _ _
     refine S6 ?_
     refine D3 3 rfl rfl rfl (A0 rfl) (A0 rfl) (D8 _) rfl E0 rfl ?_
     refine A4 ?_
     refine C8 ?_
     (refine K0 [] ((x11.2, ⟨x13.2.Kind, x13.2.Txn, x13.2.Time + x11.2.Floor, x13.2.Lead, x13.2.Reads, x13.2.Writes, x13.2.Yes⟩)) ?_ rfl (by first | (dsimp only; rfl) | rfl) (Q3 rfl (by decide) (E4 (G3 (ys := _) 2 rfl rfl C4 A8 rfl) (E4 (G3 (ys := _) 3 rfl rfl G5 E0 rfl) J6))); exact ⟨ok11.2.1, ok13.2.1⟩)
   ·intro gh38
    refine A1 rfl rfl rfl (H8 rfl (A0 rfl) (AD9 (x := AV.bool false) gh38)) ?_
    refine A4 ?_
    refine D0 (A0 rfl) ?_ ?_
    ·intro h39
     have hll : x11.2.Held.length ≤ 33045 := by (have h9 := O8 (f := THeld.size) (l := x11.2.Held); have h8 := ok11.2.1; unfold TState.size at h8; omega)
     have hl0 : 0 < x11.2.Held.length := by (simp only [Bool.and_eq_true, decide_eq_true_eq, A5] at h39; omega)
     refine H9 (by first | (simp only [splice, pick, L5, L1, L2, K9, L3, List.nil_append, L6, L7, List.append_nil, L0, List.take_zero, L4, List.drop_zero]; exact rfl) | exact rfl) ?_
     refine AWP.le (H7 [2, 1, 2, 1, 0] rfl) ?_
     refine P5 _ [(0, false), (1, false), (2, false), (3, false), (4, false), (5, false), (6, true)] (by kernel_rfl) (by kernel_rfl) rfl (N8 1) ?_
     refine F2 rfl rfl rfl (fun ext => B3 2 rfl B8 rfl F0 (A0 rfl) rfl) ?_
     refine F2 rfl rfl rfl (fun ext => B2 0 rfl (A0 rfl) rfl H1 rfl) ?_
     refine F2 rfl rfl rfl (fun ext => C7 rfl (A0 rfl)) ?_
     refine F2 rfl rfl rfl (fun ext => B3 2 rfl B8 rfl F0 (A0 rfl) rfl) ?_
     refine F2 rfl rfl rfl (fun ext => B2 0 rfl (A0 rfl) rfl H1 rfl) ?_
     refine F2 rfl rfl rfl (fun ext => G4 rfl C9 (A0 rfl)) ?_
     refine T1 rfl rfl rfl (V8 [4] rfl Tryz.call100 rfl (Q2 _ _ hcode _ _ (by simp only [A5]; omega) (by omega)) (A7 (A0 rfl) (A7 (A0 rfl) D2)) rfl) (fun a _ => (by first | exact E9 rfl | exact E9 (List.append_assoc _ _ _) | exact H5)) ?_
     intro x46 ok46
     have hix : x46.2.toNat < x11.2.Held.length := by (have h9 := ok46.2; simp only [A5] at h9; omega)
     obtain ⟨z, hz⟩ := get_some hix
     have hrow : (x11.2.Held.map THeld.cs)[x46.2.toNat]? = some z.cs := by (rw [List.getElem?_map, hz]; rfl)
     refine X1 ?_
     refine A1 rfl rfl rfl (j6 rfl C9 D4 (A0 rfl) (A0 rfl) (by omega) (by first | omega | (simp only [A5]; omega))) ?_
     refine A1 rfl rfl rfl (V1 rfl E7 rfl C0 (A0 rfl) rfl) ?_
     refine A1 rfl rfl rfl (N4 rfl (A0 rfl) C5 rfl) ?_
     refine A1 rfl rfl rfl (B3 1 rfl B6 rfl C0 (A0 rfl) rfl) ?_
     refine I3 1 rfl rfl rfl (A0 rfl) (A0 rfl) (L9 _ _) rfl C0 rfl ?_
     refine A4 (A3 ?_)
     refine H9 (by first | (simp only [splice, pick, L5, L1, L2, K9, L3, List.nil_append, L6, L7, List.append_nil, L0, List.take_zero, L4, List.drop_zero]; exact rfl) | exact rfl) ?_
     refine AWP.le (H7 [0, 0, 0, 0] rfl) ?_
     refine M4 _ 3 (.pure 0 (.pure 1 (.e1 2 .nil))) (by kernel_rfl) (by kernel_rfl) rfl (N8 2) ?_
     refine G6 rfl rfl rfl (fun ext => D9 0 rfl (A0 rfl) rfl C4 A8 rfl) ?_
     refine G6 rfl rfl rfl (fun ext => D9 1 rfl (A0 rfl) rfl G5 E0 rfl) ?_
     refine S0 ?_
     refine V3 rfl rfl rfl (Q1 2 rfl rfl (A0 rfl) (A0 rfl) (D8 _) rfl A8 rfl) (fun a _ => (by first | exact E9 rfl | exact E9 (List.append_assoc _ _ _) | exact H5)) ?_
     intro _ _
     refine S6 ?_
     refine D3 3 rfl rfl rfl (A0 rfl) (A0 rfl) (D8 _) rfl E0 rfl ?_
     refine A4 ?_
     refine C8 ?_
     (refine K0 [] ((x11.2, ⟨x13.2.Kind, z.Txn, x13.2.Time + x11.2.Floor, x13.2.Lead, x13.2.Reads, x13.2.Writes, x13.2.Yes⟩)) ?_ rfl (by first | (dsimp only; rfl) | rfl) (Q3 rfl (by decide) (E4 (G3 (ys := _) 2 rfl rfl C4 A8 rfl) (E4 (G3 (ys := _) 3 rfl rfl G5 E0 rfl) J6))); exact ⟨ok11.2.1, ok13.2.1⟩)
    ·intro h39
     refine D5 (A3 ?_)
     refine H9 (by first | (simp only [splice, pick, L5, L1, L2, K9, L3, List.nil_append, L6, L7, List.append_nil, L0, List.take_zero, L4, List.drop_zero]; exact rfl) | exact rfl) ?_
     refine AWP.le (H7 [2, 1, 2, 1] rfl) ?_
     refine M4 _ 3 (.pure 0 (.pure 1 (.e1 2 .nil))) (by kernel_rfl) (by kernel_rfl) rfl (N8 2) ?_
     refine G6 rfl rfl rfl (fun ext => D9 0 rfl (A0 rfl) rfl C4 A8 rfl) ?_
     refine G6 rfl rfl rfl (fun ext => D9 1 rfl (A0 rfl) rfl G5 E0 rfl) ?_
     refine S0 ?_
     refine V3 rfl rfl rfl (Q1 2 rfl rfl (A0 rfl) (A0 rfl) (D8 _) rfl A8 rfl) (fun a _ => (by first | exact E9 rfl | exact E9 (List.append_assoc _ _ _) | exact H5)) ?_
     intro _ _
     refine S6 ?_
     refine D3 3 rfl rfl rfl (A0 rfl) (A0 rfl) (D8 _) rfl E0 rfl ?_
     refine A4 ?_
     refine C8 ?_
     (refine K0 [] ((x11.2, ⟨x13.2.Kind, x13.2.Txn, x13.2.Time + x11.2.Floor, x13.2.Lead, x13.2.Reads, x13.2.Writes, x13.2.Yes⟩)) ?_ rfl (by first | (dsimp only; rfl) | rfl) (Q3 rfl (by decide) (E4 (G3 (ys := _) 2 rfl rfl C4 A8 rfl) (E4 (G3 (ys := _) 3 rfl rfl G5 E0 rfl) J6))); exact ⟨ok11.2.1, ok13.2.1⟩)
  ·intro h20
   refine D5 (A3 (A3 ?_))
   refine H9 (by first | (simp only [splice, pick, L5, L1, L2, K9, L3, List.nil_append, L6, L7, List.append_nil, L0, List.take_zero, L4, List.drop_zero]; exact rfl) | exact rfl) ?_
   refine A2 ?_
   refine A1 rfl rfl rfl (B3 2 rfl B8 rfl F0 (A0 rfl) rfl) ?_
   refine A1 rfl rfl rfl (B2 2 rfl (A0 rfl) rfl H1 rfl) ?_
   refine A1 rfl rfl rfl (G4 rfl C9 (A0 rfl)) ?_
   refine A1 rfl rfl rfl (P4 rfl (A0 rfl) C6) ?_
   refine A6 rfl rfl rfl rfl rfl ?_
   refine B7 rfl rfl (B9 rfl rfl rfl) (fun hc => B3 1 rfl B6 rfl C0 (A0 rfl) rfl) ?_
   refine B7 rfl rfl (B9 rfl rfl rfl) (fun hc => B2 1 rfl (A9 rfl hc) rfl C5 rfl) ?_
   refine B7 rfl rfl (B9 rfl rfl rfl) (fun hc => P4 rfl (A9 rfl hc) C6) ?_
   refine A1 rfl rfl rfl (H8 rfl (A0 rfl) (G2 rfl)) ?_
   refine A6 rfl rfl rfl rfl rfl ?_
   refine B7 rfl rfl (B9 rfl rfl rfl) (fun hc => C7 rfl (A0 rfl)) ?_
   refine n7 rfl rfl (B9 rfl rfl rfl) ?_ ?_
   ·intro gh38
    refine I8 [0] rfl rfl rfl rfl Tryz.call79 rfl (e6 _ _ hcode _ _ (by omega) (by omega)) (A7 (A9 rfl gh38) (A7 C6 D2)) rfl ?_
    intro x38 ok38
    refine A1 rfl rfl rfl (H8 rfl (A0 rfl) (evif (A0 rfl))) ?_
    refine A4 ?_
    refine D0 (A0 rfl) ?_ ?_
    ·intro h39
     have hll : x11.2.Held.length ≤ 33045 := by (have h9 := O8 (f := THeld.size) (l := x11.2.Held); have h8 := ok11.2.1; unfold TState.size at h8; omega)
     have hl0 : 0 < x11.2.Held.length := by (simp only [Bool.and_eq_true, decide_eq_true_eq, A5] at h39; omega)
     refine H9 (by first | (simp only [splice, pick, L5, L1, L2, K9, L3, List.nil_append, L6, L7, List.append_nil, L0, List.take_zero, L4, List.drop_zero]; exact rfl) | exact rfl) ?_
     refine AWP.le (H7 [2, 1, 2, 1, 0] rfl) ?_
     refine P5 _ [(0, false), (1, false), (2, false), (3, false), (4, false), (5, false), (6, true)] (by kernel_rfl) (by kernel_rfl) rfl (N8 1) ?_
     refine F2 rfl rfl rfl (fun ext => B3 2 rfl B8 rfl F0 (A0 rfl) rfl) ?_
     refine F2 rfl rfl rfl (fun ext => B2 0 rfl (A0 rfl) rfl H1 rfl) ?_
     refine F2 rfl rfl rfl (fun ext => C7 rfl (A0 rfl)) ?_
     refine F2 rfl rfl rfl (fun ext => B3 2 rfl B8 rfl F0 (A0 rfl) rfl) ?_
     refine F2 rfl rfl rfl (fun ext => B2 0 rfl (A0 rfl) rfl H1 rfl) ?_
     refine F2 rfl rfl rfl (fun ext => G4 rfl C9 (A0 rfl)) ?_
     refine T1 rfl rfl rfl (V8 [4] rfl Tryz.call100 rfl (Q2 _ _ hcode _ _ (by simp only [A5]; omega) (by omega)) (A7 (A0 rfl) (A7 (A0 rfl) D2)) rfl) (fun a _ => (by first | exact E9 rfl | exact E9 (List.append_assoc _ _ _) | exact H5)) ?_
     intro x46 ok46
     have hix : x46.2.toNat < x11.2.Held.length := by (have h9 := ok46.2; simp only [A5] at h9; omega)
     obtain ⟨z, hz⟩ := get_some hix
     have hrow : (x11.2.Held.map THeld.cs)[x46.2.toNat]? = some z.cs := by (rw [List.getElem?_map, hz]; rfl)
     refine X1 ?_
     refine A1 rfl rfl rfl (j6 rfl C9 D4 (A0 rfl) (A0 rfl) (by omega) (by first | omega | (simp only [A5]; omega))) ?_
     refine A1 rfl rfl rfl (V1 rfl E7 rfl C0 (A0 rfl) rfl) ?_
     refine A1 rfl rfl rfl (N4 rfl (A0 rfl) C5 rfl) ?_
     refine A1 rfl rfl rfl (B3 1 rfl B6 rfl C0 (A0 rfl) rfl) ?_
     refine I3 1 rfl rfl rfl (A0 rfl) (A0 rfl) (L9 _ _) rfl C0 rfl ?_
     refine A4 (A3 ?_)
     refine H9 (by first | (simp only [splice, pick, L5, L1, L2, K9, L3, List.nil_append, L6, L7, List.append_nil, L0, List.take_zero, L4, List.drop_zero]; exact rfl) | exact rfl) ?_
     refine AWP.le (H7 [0, 0, 0, 0] rfl) ?_
     refine M4 _ 3 (.pure 0 (.pure 1 (.e1 2 .nil))) (by kernel_rfl) (by kernel_rfl) rfl (N8 2) ?_
     refine G6 rfl rfl rfl (fun ext => D9 0 rfl (A0 rfl) rfl C4 A8 rfl) ?_
     refine G6 rfl rfl rfl (fun ext => D9 1 rfl (A0 rfl) rfl G5 E0 rfl) ?_
     refine S0 ?_
     refine V3 rfl rfl rfl (Q1 2 rfl rfl (A0 rfl) (A0 rfl) (D8 _) rfl A8 rfl) (fun a _ => (by first | exact E9 rfl | exact E9 (List.append_assoc _ _ _) | exact H5)) ?_
     intro _ _
     refine S6 ?_
     refine D3 3 rfl rfl rfl (A0 rfl) (A0 rfl) (D8 _) rfl E0 rfl ?_
     refine A4 ?_
     refine C8 ?_
     (refine K0 [] ((x11.2, ⟨x13.2.Kind, z.Txn, x13.2.Time, x13.2.Lead, x13.2.Reads, x13.2.Writes, x13.2.Yes⟩)) ?_ rfl (by first | (dsimp only; rfl) | rfl) (Q3 rfl (by decide) (E4 (G3 (ys := _) 2 rfl rfl C4 A8 rfl) (E4 (G3 (ys := _) 3 rfl rfl G5 E0 rfl) J6))); exact ⟨ok11.2.1, ok13.2.1⟩)
    ·intro h39
     refine D5 (A3 ?_)
     refine H9 (by first | (simp only [splice, pick, L5, L1, L2, K9, L3, List.nil_append, L6, L7, List.append_nil, L0, List.take_zero, L4, List.drop_zero]; exact rfl) | exact rfl) ?_
     refine AWP.le (H7 [2, 1, 2, 1] rfl) ?_
     refine M4 _ 3 (.pure 0 (.pure 1 (.e1 2 .nil))) (by kernel_rfl) (by kernel_rfl) rfl (N8 2) ?_
     refine G6 rfl rfl rfl (fun ext => D9 0 rfl (A0 rfl) rfl C4 A8 rfl) ?_
     refine G6 rfl rfl rfl (fun ext => D9 1 rfl (A0 rfl) rfl G5 E0 rfl) ?_
     refine S0 ?_
     refine V3 rfl rfl rfl (Q1 2 rfl rfl (A0 rfl) (A0 rfl) (D8 _) rfl A8 rfl) (fun a _ => (by first | exact E9 rfl | exact E9 (List.append_assoc _ _ _) | exact H5)) ?_
     intro _ _
     refine S6 ?_
     refine D3 3 rfl rfl rfl (A0 rfl) (A0 rfl) (D8 _) rfl E0 rfl ?_
     refine A4 ?_
     refine C8 ?_
     (refine K0 [] ((x11.2, x13.2)) ?_ rfl (by first | (dsimp only; rfl) | rfl) (Q3 rfl (by decide) (E4 (G3 (ys := _) 2 rfl rfl C4 A8 rfl) (E4 (G3 (ys := _) 3 rfl rfl G5 E0 rfl) J6))); exact ⟨ok11.2.1, ok13.2.1⟩)
   ·intro gh38
    refine A1 rfl rfl rfl (H8 rfl (A0 rfl) (AD9 (x := AV.bool false) gh38)) ?_
    refine A4 ?_
    refine D0 (A0 rfl) ?_ ?_
    ·intro h39
     have hll : x11.2.Held.length ≤ 33045 := by (have h9 := O8 (f := THeld.size) (l := x11.2.Held); have h8 := ok11.2.1; unfold TState.size at h8; omega)
     have hl0 : 0 < x11.2.Held.length := by (simp only [Bool.and_eq_true, decide_eq_true_eq, A5] at h39; omega)
     refine H9 (by first | (simp only [splice, pick, L5, L1, L2, K9, L3, List.nil_append, L6, L7, List.append_nil, L0, List.take_zero, L4, List.drop_zero]; exact rfl) | exact rfl) ?_
     refine AWP.le (H7 [2, 1, 2, 1, 0] rfl) ?_
     refine P5 _ [(0, false), (1, false), (2, false), (3, false), (4, false), (5, false), (6, true)] (by kernel_rfl) (by kernel_rfl) rfl (N8 1) ?_
     refine F2 rfl rfl rfl (fun ext => B3 2 rfl B8 rfl F0 (A0 rfl) rfl) ?_
     refine F2 rfl rfl rfl (fun ext => B2 0 rfl (A0 rfl) rfl H1 rfl) ?_
     refine F2 rfl rfl rfl (fun ext => C7 rfl (A0 rfl)) ?_
     refine F2 rfl rfl rfl (fun ext => B3 2 rfl B8 rfl F0 (A0 rfl) rfl) ?_
     refine F2 rfl rfl rfl (fun ext => B2 0 rfl (A0 rfl) rfl H1 rfl) ?_
     refine F2 rfl rfl rfl (fun ext => G4 rfl C9 (A0 rfl)) ?_
     refine T1 rfl rfl rfl (V8 [4] rfl Tryz.call100 rfl (Q2 _ _ hcode _ _ (by simp only [A5]; omega) (by omega)) (A7 (A0 rfl) (A7 (A0 rfl) D2)) rfl) (fun a _ => (by first | exact E9 rfl | exact E9 (List.append_assoc _ _ _) | exact H5)) ?_
     intro x46 ok46
     have hix : x46.2.toNat < x11.2.Held.length := by (have h9 := ok46.2; simp only [A5] at h9; omega)
     obtain ⟨z, hz⟩ := get_some hix
     have hrow : (x11.2.Held.map THeld.cs)[x46.2.toNat]? = some z.cs := by (rw [List.getElem?_map, hz]; rfl)
     refine X1 ?_
     refine A1 rfl rfl rfl (j6 rfl C9 D4 (A0 rfl) (A0 rfl) (by omega) (by first | omega | (simp only [A5]; omega))) ?_
     refine A1 rfl rfl rfl (V1 rfl E7 rfl C0 (A0 rfl) rfl) ?_
     refine A1 rfl rfl rfl (N4 rfl (A0 rfl) C5 rfl) ?_
     refine A1 rfl rfl rfl (B3 1 rfl B6 rfl C0 (A0 rfl) rfl) ?_
     refine I3 1 rfl rfl rfl (A0 rfl) (A0 rfl) (L9 _ _) rfl C0 rfl ?_
     refine A4 (A3 ?_)
     refine H9 (by first | (simp only [splice, pick, L5, L1, L2, K9, L3, List.nil_append, L6, L7, List.append_nil, L0, List.take_zero, L4, List.drop_zero]; exact rfl) | exact rfl) ?_
     refine AWP.le (H7 [0, 0, 0, 0] rfl) ?_
     refine M4 _ 3 (.pure 0 (.pure 1 (.e1 2 .nil))) (by kernel_rfl) (by kernel_rfl) rfl (N8 2) ?_
     refine G6 rfl rfl rfl (fun ext => D9 0 rfl (A0 rfl) rfl C4 A8 rfl) ?_
     refine G6 rfl rfl rfl (fun ext => D9 1 rfl (A0 rfl) rfl G5 E0 rfl) ?_
     refine S0 ?_
     refine V3 rfl rfl rfl (Q1 2 rfl rfl (A0 rfl) (A0 rfl) (D8 _) rfl A8 rfl) (fun a _ => (by first | exact E9 rfl | exact E9 (List.append_assoc _ _ _) | exact H5)) ?_
     intro _ _
     refine S6 ?_
     refine D3 3 rfl rfl rfl (A0 rfl) (A0 rfl) (D8 _) rfl E0 rfl ?_
     refine A4 ?_
     refine C8 ?_
     (refine K0 [] ((x11.2, ⟨x13.2.Kind, z.Txn, x13.2.Time, x13.2.Lead, x13.2.Reads, x13.2.Writes, x13.2.Yes⟩)) ?_ rfl (by first | (dsimp only; rfl) | rfl) (Q3 rfl (by decide) (E4 (G3 (ys := _) 2 rfl rfl C4 A8 rfl) (E4 (G3 (ys := _) 3 rfl rfl G5 E0 rfl) J6))); exact ⟨ok11.2.1, ok13.2.1⟩)
    ·intro h39
     refine D5 (A3 ?_)
     refine H9 (by first | (simp only [splice, pick, L5, L1, L2, K9, L3, List.nil_append, L6, L7, List.append_nil, L0, List.take_zero, L4, List.drop_zero]; exact rfl) | exact rfl) ?_
     refine AWP.le (H7 [2, 1, 2, 1] rfl) ?_
     refine M4 _ 3 (.pure 0 (.pure 1 (.e1 2 .nil))) (by kernel_rfl) (by kernel_rfl) rfl (N8 2) ?_
     refine G6 rfl rfl rfl (fun ext => D9 0 rfl (A0 rfl) rfl C4 A8 rfl) ?_
     refine G6 rfl rfl rfl (fun ext => D9 1 rfl (A0 rfl) rfl G5 E0 rfl) ?_
     refine S0 ?_
     refine V3 rfl rfl rfl (Q1 2 rfl rfl (A0 rfl) (A0 rfl) (D8 _) rfl A8 rfl) (fun a _ => (by first | exact E9 rfl | exact E9 (List.append_assoc _ _ _) | exact H5)) ?_
     intro _ _
     refine S6 ?_
     refine D3 3 rfl rfl rfl (A0 rfl) (A0 rfl) (D8 _) rfl E0 rfl ?_
     refine A4 ?_
     refine C8 ?_
     (refine K0 [] ((x11.2, x13.2)) ?_ rfl (by first | (dsimp only; rfl) | rfl) (Q3 rfl (by decide) (E4 (G3 (ys := _) 2 rfl rfl C4 A8 rfl) (E4 (G3 (ys := _) 3 rfl rfl G5 E0 rfl) J6))); exact ⟨ok11.2.1, ok13.2.1⟩)
 ·intro gh19
  refine A1 rfl rfl rfl (H8 rfl (A0 rfl) (AD9 (x := AV.bool false) gh19)) ?_
  refine A4 ?_
  refine D0 (A0 rfl) ?_ ?_
  ·intro h20
   refine H9 (by first | (simp only [splice, pick, L5, L1, L2, K9, L3, List.nil_append, L6, L7, List.append_nil, L0, List.take_zero, L4, List.drop_zero]; exact rfl) | exact rfl) ?_
   refine A2 ?_
   refine A1 rfl rfl rfl (B3 2 rfl B6 rfl C0 (A0 rfl) rfl) ?_
   refine A1 rfl rfl rfl (B2 0 rfl (A0 rfl) rfl C5 rfl) ?_
   refine A1 rfl rfl rfl (B3 0 rfl B8 rfl C0 (A0 rfl) rfl) ?_
   refine A1 rfl rfl rfl (B2 2 rfl (A0 rfl) rfl C5 rfl) ?_
   refine A1 rfl rfl rfl (H4 rfl (A0 rfl) (A0 rfl) (by omega)) ?_
   refine A1 rfl rfl rfl (B3 2 rfl B6 rfl C0 (A0 rfl) rfl) ?_
   refine I3 0 rfl rfl rfl (A0 rfl) (A0 rfl) (L9 _ _) rfl C0 rfl ?_
   refine A4 (A3 (A3 ?_))
   refine H9 (by first | (simp only [splice, pick, L5, L1, L2, K9, L3, List.nil_append, L6, L7, List.append_nil, L0, List.take_zero, L4, List.drop_zero]; exact rfl) | exact rfl) ?_
   refine A2 ?_
   refine A1 rfl rfl rfl (B3 2 rfl B8 rfl F0 (A0 rfl) rfl) ?_
   refine A1 rfl rfl rfl (B2 2 rfl (A0 rfl) rfl H1 rfl) ?_
   refine A1 rfl rfl rfl (G4 rfl C9 (A0 rfl)) ?_
   refine A1 rfl rfl rfl (P4 rfl (A0 rfl) C6) ?_
   refine A6 rfl rfl rfl rfl rfl ?_
   refine B7 rfl rfl (B9 rfl rfl rfl) (fun hc => B3 1 rfl B6 rfl C0 (A0 rfl) rfl) ?_
   refine B7 rfl rfl (B9 rfl rfl rfl) (fun hc => B2 0 rfl (A9 rfl hc) rfl C5 rfl) ?_
   refine B7 rfl rfl (B9 rfl rfl rfl) (fun hc => P4 rfl (A9 rfl hc) C6) ?_
   refine A1 rfl rfl rfl (H8 rfl (A0 rfl) (G2 rfl)) ?_
   refine A6 rfl rfl rfl rfl rfl ?_
   refine B7 rfl rfl (B9 rfl rfl rfl) (fun hc => C7 rfl (A0 rfl)) ?_
   refine n7 rfl rfl (B9 rfl rfl rfl) ?_ ?_
   ·intro gh38
    refine I8 [1] rfl rfl rfl rfl Tryz.call79 rfl (e6 _ _ hcode _ _ (by omega) (by omega)) (A7 (A9 rfl gh38) (A7 C6 D2)) rfl ?_
    intro x38 ok38
    refine A1 rfl rfl rfl (H8 rfl (A0 rfl) (evif (A0 rfl))) ?_
    refine A4 ?_
    refine D0 (A0 rfl) ?_ ?_
    ·intro h39
     have hll : x11.2.Held.length ≤ 33045 := by (have h9 := O8 (f := THeld.size) (l := x11.2.Held); have h8 := ok11.2.1; unfold TState.size at h8; omega)
     have hl0 : 0 < x11.2.Held.length := by (simp only [Bool.and_eq_true, decide_eq_true_eq, A5] at h39; omega)
     refine H9 (by first | (simp only [splice, pick, L5, L1, L2, K9, L3, List.nil_append, L6, L7, List.append_nil, L0, List.take_zero, L4, List.drop_zero]; exact rfl) | exact rfl) ?_
     refine AWP.le (H7 [2, 1, 2, 1, 0] rfl) ?_
     refine P5 _ [(0, false), (1, false), (2, false), (3, false), (4, false), (5, false), (6, true)] (by kernel_rfl) (by kernel_rfl) rfl (N8 1) ?_
     refine F2 rfl rfl rfl (fun ext => B3 2 rfl B8 rfl F0 (A0 rfl) rfl) ?_
     refine F2 rfl rfl rfl (fun ext => B2 0 rfl (A0 rfl) rfl H1 rfl) ?_
     refine F2 rfl rfl rfl (fun ext => C7 rfl (A0 rfl)) ?_
     refine F2 rfl rfl rfl (fun ext => B3 2 rfl B8 rfl F0 (A0 rfl) rfl) ?_
     refine F2 rfl rfl rfl (fun ext => B2 0 rfl (A0 rfl) rfl H1 rfl) ?_
     refine F2 rfl rfl rfl (fun ext => G4 rfl C9 (A0 rfl)) ?_
     refine T1 rfl rfl rfl (V8 [4] rfl Tryz.call100 rfl (Q2 _ _ hcode _ _ (by simp only [A5]; omega) (by omega)) (A7 (A0 rfl) (A7 (A0 rfl) D2)) rfl) (fun a _ => (by first | exact E9 rfl | exact E9 (List.append_assoc _ _ _) | exact H5)) ?_
     intro x46 ok46
     have hix : x46.2.toNat < x11.2.Held.length := by (have h9 := ok46.2; simp only [A5] at h9; omega)
     obtain ⟨z, hz⟩ := get_some hix
     have hrow : (x11.2.Held.map THeld.cs)[x46.2.toNat]? = some z.cs := by (rw [List.getElem?_map, hz]; rfl)
     refine X1 ?_
     refine A1 rfl rfl rfl (j6 rfl C9 D4 (A0 rfl) (A0 rfl) (by omega) (by first | omega | (simp only [A5]; omega))) ?_
     refine A1 rfl rfl rfl (V1 rfl E7 rfl C0 (A0 rfl) rfl) ?_
     refine A1 rfl rfl rfl (N4 rfl (A0 rfl) C5 rfl) ?_
     refine A1 rfl rfl rfl (B3 1 rfl B6 rfl C0 (A0 rfl) rfl) ?_
     refine I3 1 rfl rfl rfl (A0 rfl) (A0 rfl) (L9 _ _) rfl C0 rfl ?_
     refine A4 (A3 ?_)
     refine H9 (by first | (simp only [splice, pick, L5, L1, L2, K9, L3, List.nil_append, L6, L7, List.append_nil, L0, List.take_zero, L4, List.drop_zero]; exact rfl) | exact rfl) ?_
     refine AWP.le (H7 [0, 0, 0, 0] rfl) ?_
     refine M4 _ 3 (.pure 0 (.pure 1 (.e1 2 .nil))) (by kernel_rfl) (by kernel_rfl) rfl (N8 2) ?_
     refine G6 rfl rfl rfl (fun ext => D9 0 rfl (A0 rfl) rfl C4 A8 rfl) ?_
     refine G6 rfl rfl rfl (fun ext => D9 1 rfl (A0 rfl) rfl G5 E0 rfl) ?_
     refine S0 ?_
     refine V3 rfl rfl rfl (Q1 2 rfl rfl (A0 rfl) (A0 rfl) (D8 _) rfl A8 rfl) (fun a _ => (by first | exact E9 rfl | exact E9 (List.append_assoc _ _ _) | exact H5)) ?_
     intro _ _
     refine S6 ?_
     refine D3 3 rfl rfl rfl (A0 rfl) (A0 rfl) (D8 _) rfl E0 rfl ?_
     refine A4 ?_
     refine C8 ?_
     (refine K0 [] ((x11.2, ⟨x13.2.Kind, z.Txn, x13.2.Time + x11.2.Floor, x13.2.Lead, x13.2.Reads, x13.2.Writes, x13.2.Yes⟩)) ?_ rfl (by first | (dsimp only; rfl) | rfl) (Q3 rfl (by decide) (E4 (G3 (ys := _) 2 rfl rfl C4 A8 rfl) (E4 (G3 (ys := _) 3 rfl rfl G5 E0 rfl) J6))); exact ⟨ok11.2.1, ok13.2.1⟩)
    ·intro h39
     refine D5 (A3 ?_)
     refine H9 (by first | (simp only [splice, pick, L5, L1, L2, K9, L3, List.nil_append, L6, L7, List.append_nil, L0, List.take_zero, L4, List.drop_zero]; exact rfl) | exact rfl) ?_
     refine AWP.le (H7 [2, 1, 2, 1] rfl) ?_
     refine M4 _ 3 (.pure 0 (.pure 1 (.e1 2 .nil))) (by kernel_rfl) (by kernel_rfl) rfl (N8 2) ?_
     refine G6 rfl rfl rfl (fun ext => D9 0 rfl (A0 rfl) rfl C4 A8 rfl) ?_
     refine G6 rfl rfl rfl (fun ext => D9 1 rfl (A0 rfl) rfl G5 E0 rfl) ?_
     refine S0 ?_
     refine V3 rfl rfl rfl (Q1 2 rfl rfl (A0 rfl) (A0 rfl) (D8 _) rfl A8 rfl) (fun a _ => (by first | exact E9 rfl | exact E9 (List.append_assoc _ _ _) | exact H5)) ?_
     intro _ _
     refine S6 ?_
     refine D3 3 rfl rfl rfl (A0 rfl) (A0 rfl) (D8 _) rfl E0 rfl ?_
     refine A4 ?_
     refine C8 ?_
     (refine K0 [] ((x11.2, ⟨x13.2.Kind, x13.2.Txn, x13.2.Time + x11.2.Floor, x13.2.Lead, x13.2.Reads, x13.2.Writes, x13.2.Yes⟩)) ?_ rfl (by first | (dsimp only; rfl) | rfl) (Q3 rfl (by decide) (E4 (G3 (ys := _) 2 rfl rfl C4 A8 rfl) (E4 (G3 (ys := _) 3 rfl rfl G5 E0 rfl) J6))); exact ⟨ok11.2.1, ok13.2.1⟩)
   ·intro gh38
    refine A1 rfl rfl rfl (H8 rfl (A0 rfl) (AD9 (x := AV.bool false) gh38)) ?_
    refine A4 ?_
    refine D0 (A0 rfl) ?_ ?_
    ·intro h39
     have hll : x11.2.Held.length ≤ 33045 := by (have h9 := O8 (f := THeld.size) (l := x11.2.Held); have h8 := ok11.2.1; unfold TState.size at h8; omega)
     have hl0 : 0 < x11.2.Held.length := by (simp only [Bool.and_eq_true, decide_eq_true_eq, A5] at h39; omega)
     refine H9 (by first | (simp only [splice, pick, L5, L1, L2, K9, L3, List.nil_append, L6, L7, List.append_nil, L0, List.take_zero, L4, List.drop_zero]; exact rfl) | exact rfl) ?_
     refine AWP.le (H7 [2, 0, 2, 1, 0] rfl) ?_
     refine P5 _ [(0, false), (1, false), (2, false), (3, false), (4, false), (5, false), (6, true)] (by kernel_rfl) (by kernel_rfl) rfl (N8 1) ?_
     refine F2 rfl rfl rfl (fun ext => B3 2 rfl B8 rfl F0 (A0 rfl) rfl) ?_
     refine F2 rfl rfl rfl (fun ext => B2 0 rfl (A0 rfl) rfl H1 rfl) ?_
     refine F2 rfl rfl rfl (fun ext => C7 rfl (A0 rfl)) ?_
     refine F2 rfl rfl rfl (fun ext => B3 2 rfl B8 rfl F0 (A0 rfl) rfl) ?_
     refine F2 rfl rfl rfl (fun ext => B2 0 rfl (A0 rfl) rfl H1 rfl) ?_
     refine F2 rfl rfl rfl (fun ext => G4 rfl C9 (A0 rfl)) ?_
     refine T1 rfl rfl rfl (V8 [4] rfl Tryz.call100 rfl (Q2 _ _ hcode _ _ (by simp only [A5]; omega) (by omega)) (A7 (A0 rfl) (A7 (A0 rfl) D2)) rfl) (fun a _ => (by first | exact E9 rfl | exact E9 (List.append_assoc _ _ _) | exact H5)) ?_
     intro x46 ok46
     have hix : x46.2.toNat < x11.2.Held.length := by (have h9 := ok46.2; simp only [A5] at h9; omega)
     obtain ⟨z, hz⟩ := get_some hix
     have hrow : (x11.2.Held.map THeld.cs)[x46.2.toNat]? = some z.cs := by (rw [List.getElem?_map, hz]; rfl)
     refine X1 ?_
     refine A1 rfl rfl rfl (j6 rfl C9 D4 (A0 rfl) (A0 rfl) (by omega) (by first | omega | (simp only [A5]; omega))) ?_
     refine A1 rfl rfl rfl (V1 rfl E7 rfl C0 (A0 rfl) rfl) ?_
     refine A1 rfl rfl rfl (N4 rfl (A0 rfl) C5 rfl) ?_
     refine A1 rfl rfl rfl (B3 1 rfl B6 rfl C0 (A0 rfl) rfl) ?_
     refine I3 1 rfl rfl rfl (A0 rfl) (A0 rfl) (L9 _ _) rfl C0 rfl ?_
     refine A4 (A3 ?_)
     refine H9 (by first | (simp only [splice, pick, L5, L1, L2, K9, L3, List.nil_append, L6, L7, List.append_nil, L0, List.take_zero, L4, List.drop_zero]; exact rfl) | exact rfl) ?_
     refine AWP.le (H7 [0, 0, 0, 0] rfl) ?_
     refine M4 _ 3 (.pure 0 (.pure 1 (.e1 2 .nil))) (by kernel_rfl) (by kernel_rfl) rfl (N8 2) ?_
     refine G6 rfl rfl rfl (fun ext => D9 0 rfl (A0 rfl) rfl C4 A8 rfl) ?_
     refine G6 rfl rfl rfl (fun ext => D9 1 rfl (A0 rfl) rfl G5 E0 rfl) ?_
     refine S0 ?_
     refine V3 rfl rfl rfl (Q1 2 rfl rfl (A0 rfl) (A0 rfl) (D8 _) rfl A8 rfl) (fun a _ => (by first | exact E9 rfl | exact E9 (List.append_assoc _ _ _) | exact H5)) ?_
     intro _ _
     refine S6 ?_
     refine D3 3 rfl rfl rfl (A0 rfl) (A0 rfl) (D8 _) rfl E0 rfl ?_
     refine A4 ?_
     refine C8 ?_
     (refine K0 [] ((x11.2, ⟨x13.2.Kind, z.Txn, x13.2.Time + x11.2.Floor, x13.2.Lead, x13.2.Reads, x13.2.Writes, x13.2.Yes⟩)) ?_ rfl (by first | (dsimp only; rfl) | rfl) (Q3 rfl (by decide) (E4 (G3 (ys := _) 2 rfl rfl C4 A8 rfl) (E4 (G3 (ys := _) 3 rfl rfl G5 E0 rfl) J6))); exact ⟨ok11.2.1, ok13.2.1⟩)
    ·intro h39
     refine D5 (A3 ?_)
     refine H9 (by first | (simp only [splice, pick, L5, L1, L2, K9, L3, List.nil_append, L6, L7, List.append_nil, L0, List.take_zero, L4, List.drop_zero]; exact rfl) | exact rfl) ?_
     refine AWP.le (H7 [2, 0, 2, 1] rfl) ?_
     refine M4 _ 3 (.pure 0 (.pure 1 (.e1 2 .nil))) (by kernel_rfl) (by kernel_rfl) rfl (N8 2) ?_
     refine G6 rfl rfl rfl (fun ext => D9 0 rfl (A0 rfl) rfl C4 A8 rfl) ?_
     refine G6 rfl rfl rfl (fun ext => D9 1 rfl (A0 rfl) rfl G5 E0 rfl) ?_
     refine S0 ?_
     refine V3 rfl rfl rfl (Q1 2 rfl rfl (A0 rfl) (A0 rfl) (D8 _) rfl A8 rfl) (fun a _ => (by first | exact E9 rfl | exact E9 (List.append_assoc _ _ _) | exact H5)) ?_
     intro _ _
     refine S6 ?_
     refine D3 3 rfl rfl rfl (A0 rfl) (A0 rfl) (D8 _) rfl E0 rfl ?_
     refine A4 ?_
     refine C8 ?_
     (refine K0 [] ((x11.2, ⟨x13.2.Kind, x13.2.Txn, x13.2.Time + x11.2.Floor, x13.2.Lead, x13.2.Reads, x13.2.Writes, x13.2.Yes⟩)) ?_ rfl (by first | (dsimp only; rfl) | rfl) (Q3 rfl (by decide) (E4 (G3 (ys := _) 2 rfl rfl C4 A8 rfl) (E4 (G3 (ys := _) 3 rfl rfl G5 E0 rfl) J6))); exact ⟨ok11.2.1, ok13.2.1⟩)
  ·intro h20
   refine D5 (A3 (A3 ?_))
   refine H9 (by first | (simp only [splice, pick, L5, L1, L2, K9, L3, List.nil_append, L6, L7, List.append_nil, L0, List.take_zero, L4, List.drop_zero]; exact rfl) | exact rfl) ?_
   refine A2 ?_
   refine A1 rfl rfl rfl (B3 2 rfl B8 rfl F0 (A0 rfl) rfl) ?_
   refine A1 rfl rfl rfl (B2 2 rfl (A0 rfl) rfl H1 rfl) ?_
   refine A1 rfl rfl rfl (G4 rfl C9 (A0 rfl)) ?_
   refine A1 rfl rfl rfl (P4 rfl (A0 rfl) C6) ?_
   refine A6 rfl rfl rfl rfl rfl ?_
   refine B7 rfl rfl (B9 rfl rfl rfl) (fun hc => B3 1 rfl B6 rfl C0 (A0 rfl) rfl) ?_
   refine B7 rfl rfl (B9 rfl rfl rfl) (fun hc => B2 0 rfl (A9 rfl hc) rfl C5 rfl) ?_
   refine B7 rfl rfl (B9 rfl rfl rfl) (fun hc => P4 rfl (A9 rfl hc) C6) ?_
   refine A1 rfl rfl rfl (H8 rfl (A0 rfl) (G2 rfl)) ?_
   refine A6 rfl rfl rfl rfl rfl ?_
   refine B7 rfl rfl (B9 rfl rfl rfl) (fun hc => C7 rfl (A0 rfl)) ?_
   refine n7 rfl rfl (B9 rfl rfl rfl) ?_ ?_
   ·intro gh38
    refine I8 [1] rfl rfl rfl rfl Tryz.call79 rfl (e6 _ _ hcode _ _ (by omega) (by omega)) (A7 (A9 rfl gh38) (A7 C6 D2)) rfl ?_
    intro x38 ok38
    refine A1 rfl rfl rfl (H8 rfl (A0 rfl) (evif (A0 rfl))) ?_
    refine A4 ?_
    refine D0 (A0 rfl) ?_ ?_
    ·intro h39
     have hll : x11.2.Held.length ≤ 33045 := by (have h9 := O8 (f := THeld.size) (l := x11.2.Held); have h8 := ok11.2.1; unfold TState.size at h8; omega)
     have hl0 : 0 < x11.2.Held.length := by (simp only [Bool.and_eq_true, decide_eq_true_eq, A5] at h39; omega)
     refine H9 (by first | (simp only [splice, pick, L5, L1, L2, K9, L3, List.nil_append, L6, L7, List.append_nil, L0, List.take_zero, L4, List.drop_zero]; exact rfl) | exact rfl) ?_
     refine AWP.le (H7 [2, 1, 2, 1, 0] rfl) ?_
     refine P5 _ [(0, false), (1, false), (2, false), (3, false), (4, false), (5, false), (6, true)] (by kernel_rfl) (by kernel_rfl) rfl (N8 1) ?_
     refine F2 rfl rfl rfl (fun ext => B3 2 rfl B8 rfl F0 (A0 rfl) rfl) ?_
     refine F2 rfl rfl rfl (fun ext => B2 0 rfl (A0 rfl) rfl H1 rfl) ?_
     refine F2 rfl rfl rfl (fun ext => C7 rfl (A0 rfl)) ?_
     refine F2 rfl rfl rfl (fun ext => B3 2 rfl B8 rfl F0 (A0 rfl) rfl) ?_
     refine F2 rfl rfl rfl (fun ext => B2 0 rfl (A0 rfl) rfl H1 rfl) ?_
     refine F2 rfl rfl rfl (fun ext => G4 rfl C9 (A0 rfl)) ?_
     refine T1 rfl rfl rfl (V8 [4] rfl Tryz.call100 rfl (Q2 _ _ hcode _ _ (by simp only [A5]; omega) (by omega)) (A7 (A0 rfl) (A7 (A0 rfl) D2)) rfl) (fun a _ => (by first | exact E9 rfl | exact E9 (List.append_assoc _ _ _) | exact H5)) ?_
     intro x46 ok46
     have hix : x46.2.toNat < x11.2.Held.length := by (have h9 := ok46.2; simp only [A5] at h9; omega)
     obtain ⟨z, hz⟩ := get_some hix
     have hrow : (x11.2.Held.map THeld.cs)[x46.2.toNat]? = some z.cs := by (rw [List.getElem?_map, hz]; rfl)
     refine X1 ?_
     refine A1 rfl rfl rfl (j6 rfl C9 D4 (A0 rfl) (A0 rfl) (by omega) (by first | omega | (simp only [A5]; omega))) ?_
     refine A1 rfl rfl rfl (V1 rfl E7 rfl C0 (A0 rfl) rfl) ?_
     refine A1 rfl rfl rfl (N4 rfl (A0 rfl) C5 rfl) ?_
     refine A1 rfl rfl rfl (B3 1 rfl B6 rfl C0 (A0 rfl) rfl) ?_
     refine I3 1 rfl rfl rfl (A0 rfl) (A0 rfl) (L9 _ _) rfl C0 rfl ?_
     refine A4 (A3 ?_)
     refine H9 (by first | (simp only [splice, pick, L5, L1, L2, K9, L3, List.nil_append, L6, L7, List.append_nil, L0, List.take_zero, L4, List.drop_zero]; exact rfl) | exact rfl) ?_
     refine AWP.le (H7 [0, 0, 0, 0] rfl) ?_
     refine M4 _ 3 (.pure 0 (.pure 1 (.e1 2 .nil))) (by kernel_rfl) (by kernel_rfl) rfl (N8 2) ?_
     refine G6 rfl rfl rfl (fun ext => D9 0 rfl (A0 rfl) rfl C4 A8 rfl) ?_
     refine G6 rfl rfl rfl (fun ext => D9 1 rfl (A0 rfl) rfl G5 E0 rfl) ?_
     refine S0 ?_
     refine V3 rfl rfl rfl (Q1 2 rfl rfl (A0 rfl) (A0 rfl) (D8 _) rfl A8 rfl) (fun a _ => (by first | exact E9 rfl | exact E9 (List.append_assoc _ _ _) | exact H5)) ?_
     intro _ _
     refine S6 ?_
     refine D3 3 rfl rfl rfl (A0 rfl) (A0 rfl) (D8 _) rfl E0 rfl ?_
     refine A4 ?_
     refine C8 ?_
     (refine K0 [] ((x11.2, ⟨x13.2.Kind, z.Txn, x13.2.Time, x13.2.Lead, x13.2.Reads, x13.2.Writes, x13.2.Yes⟩)) ?_ rfl (by first | (dsimp only; rfl) | rfl) (Q3 rfl (by decide) (E4 (G3 (ys := _) 2 rfl rfl C4 A8 rfl) (E4 (G3 (ys := _) 3 rfl rfl G5 E0 rfl) J6))); exact ⟨ok11.2.1, ok13.2.1⟩)
    ·intro h39
     refine D5 (A3 ?_)
     refine H9 (by first | (simp only [splice, pick, L5, L1, L2, K9, L3, List.nil_append, L6, L7, List.append_nil, L0, List.take_zero, L4, List.drop_zero]; exact rfl) | exact rfl) ?_
     refine AWP.le (H7 [2, 1, 2, 1] rfl) ?_
     refine M4 _ 3 (.pure 0 (.pure 1 (.e1 2 .nil))) (by kernel_rfl) (by kernel_rfl) rfl (N8 2) ?_
     refine G6 rfl rfl rfl (fun ext => D9 0 rfl (A0 rfl) rfl C4 A8 rfl) ?_
     refine G6 rfl rfl rfl (fun ext => D9 1 rfl (A0 rfl) rfl G5 E0 rfl) ?_
     refine S0 ?_
     refine V3 rfl rfl rfl (Q1 2 rfl rfl (A0 rfl) (A0 rfl) (D8 _) rfl A8 rfl) (fun a _ => (by first | exact E9 rfl | exact E9 (List.append_assoc _ _ _) | exact H5)) ?_
     intro _ _
     refine S6 ?_
     refine D3 3 rfl rfl rfl (A0 rfl) (A0 rfl) (D8 _) rfl E0 rfl ?_
     refine A4 ?_
     refine C8 ?_
     (refine K0 [] ((x11.2, x13.2)) ?_ rfl (by first | (dsimp only; rfl) | rfl) (Q3 rfl (by decide) (E4 (G3 (ys := _) 2 rfl rfl C4 A8 rfl) (E4 (G3 (ys := _) 3 rfl rfl G5 E0 rfl) J6))); exact ⟨ok11.2.1, ok13.2.1⟩)
   ·intro gh38
    refine A1 rfl rfl rfl (H8 rfl (A0 rfl) (AD9 (x := AV.bool false) gh38)) ?_
    refine A4 ?_
    refine D0 (A0 rfl) ?_ ?_
    ·intro h39
     have hll : x11.2.Held.length ≤ 33045 := by (have h9 := O8 (f := THeld.size) (l := x11.2.Held); have h8 := ok11.2.1; unfold TState.size at h8; omega)
     have hl0 : 0 < x11.2.Held.length := by (simp only [Bool.and_eq_true, decide_eq_true_eq, A5] at h39; omega)
     refine H9 (by first | (simp only [splice, pick, L5, L1, L2, K9, L3, List.nil_append, L6, L7, List.append_nil, L0, List.take_zero, L4, List.drop_zero]; exact rfl) | exact rfl) ?_
     refine AWP.le (H7 [2, 0, 2, 1, 0] rfl) ?_
     refine P5 _ [(0, false), (1, false), (2, false), (3, false), (4, false), (5, false), (6, true)] (by kernel_rfl) (by kernel_rfl) rfl (N8 1) ?_
     refine F2 rfl rfl rfl (fun ext => B3 2 rfl B8 rfl F0 (A0 rfl) rfl) ?_
     refine F2 rfl rfl rfl (fun ext => B2 0 rfl (A0 rfl) rfl H1 rfl) ?_
     refine F2 rfl rfl rfl (fun ext => C7 rfl (A0 rfl)) ?_
     refine F2 rfl rfl rfl (fun ext => B3 2 rfl B8 rfl F0 (A0 rfl) rfl) ?_
     refine F2 rfl rfl rfl (fun ext => B2 0 rfl (A0 rfl) rfl H1 rfl) ?_
     refine F2 rfl rfl rfl (fun ext => G4 rfl C9 (A0 rfl)) ?_
     refine T1 rfl rfl rfl (V8 [4] rfl Tryz.call100 rfl (Q2 _ _ hcode _ _ (by simp only [A5]; omega) (by omega)) (A7 (A0 rfl) (A7 (A0 rfl) D2)) rfl) (fun a _ => (by first | exact E9 rfl | exact E9 (List.append_assoc _ _ _) | exact H5)) ?_
     intro x46 ok46
     have hix : x46.2.toNat < x11.2.Held.length := by (have h9 := ok46.2; simp only [A5] at h9; omega)
     obtain ⟨z, hz⟩ := get_some hix
     have hrow : (x11.2.Held.map THeld.cs)[x46.2.toNat]? = some z.cs := by (rw [List.getElem?_map, hz]; rfl)
     refine X1 ?_
     refine A1 rfl rfl rfl (j6 rfl C9 D4 (A0 rfl) (A0 rfl) (by omega) (by first | omega | (simp only [A5]; omega))) ?_
     refine A1 rfl rfl rfl (V1 rfl E7 rfl C0 (A0 rfl) rfl) ?_
     refine A1 rfl rfl rfl (N4 rfl (A0 rfl) C5 rfl) ?_
     refine A1 rfl rfl rfl (B3 1 rfl B6 rfl C0 (A0 rfl) rfl) ?_
     refine I3 1 rfl rfl rfl (A0 rfl) (A0 rfl) (L9 _ _) rfl C0 rfl ?_
     refine A4 (A3 ?_)
     refine H9 (by first | (simp only [splice, pick, L5, L1, L2, K9, L3, List.nil_append, L6, L7, List.append_nil, L0, List.take_zero, L4, List.drop_zero]; exact rfl) | exact rfl) ?_
     refine AWP.le (H7 [0, 0, 0, 0] rfl) ?_
     refine M4 _ 3 (.pure 0 (.pure 1 (.e1 2 .nil))) (by kernel_rfl) (by kernel_rfl) rfl (N8 2) ?_
     refine G6 rfl rfl rfl (fun ext => D9 0 rfl (A0 rfl) rfl C4 A8 rfl) ?_
     refine G6 rfl rfl rfl (fun ext => D9 1 rfl (A0 rfl) rfl G5 E0 rfl) ?_
     refine S0 ?_
     refine V3 rfl rfl rfl (Q1 2 rfl rfl (A0 rfl) (A0 rfl) (D8 _) rfl A8 rfl) (fun a _ => (by first | exact E9 rfl | exact E9 (List.append_assoc _ _ _) | exact H5)) ?_
     intro _ _
     refine S6 ?_
     refine D3 3 rfl rfl rfl (A0 rfl) (A0 rfl) (D8 _) rfl E0 rfl ?_
     refine A4 ?_
     refine C8 ?_
     (refine K0 [] ((x11.2, ⟨x13.2.Kind, z.Txn, x13.2.Time, x13.2.Lead, x13.2.Reads, x13.2.Writes, x13.2.Yes⟩)) ?_ rfl (by first | (dsimp only; rfl) | rfl) (Q3 rfl (by decide) (E4 (G3 (ys := _) 2 rfl rfl C4 A8 rfl) (E4 (G3 (ys := _) 3 rfl rfl G5 E0 rfl) J6))); exact ⟨ok11.2.1, ok13.2.1⟩)
    ·intro h39
     refine D5 (A3 ?_)
     refine H9 (by first | (simp only [splice, pick, L5, L1, L2, K9, L3, List.nil_append, L6, L7, List.append_nil, L0, List.take_zero, L4, List.drop_zero]; exact rfl) | exact rfl) ?_
     refine AWP.le (H7 [2, 0, 2, 1] rfl) ?_
     refine M4 _ 3 (.pure 0 (.pure 1 (.e1 2 .nil))) (by kernel_rfl) (by kernel_rfl) rfl (N8 2) ?_
     refine G6 rfl rfl rfl (fun ext => D9 0 rfl (A0 rfl) rfl C4 A8 rfl) ?_
     refine G6 rfl rfl rfl (fun ext => D9 1 rfl (A0 rfl) rfl G5 E0 rfl) ?_
     refine S0 ?_
     refine V3 rfl rfl rfl (Q1 2 rfl rfl (A0 rfl) (A0 rfl) (D8 _) rfl A8 rfl) (fun a _ => (by first | exact E9 rfl | exact E9 (List.append_assoc _ _ _) | exact H5)) ?_
     intro _ _
     refine S6 ?_
     refine D3 3 rfl rfl rfl (A0 rfl) (A0 rfl) (D8 _) rfl E0 rfl ?_
     refine A4 ?_
     refine C8 ?_
     (refine K0 [] ((x11.2, x13.2)) ?_ rfl (by first | (dsimp only; rfl) | rfl) (Q3 rfl (by decide) (E4 (G3 (ys := _) 2 rfl rfl C4 A8 rfl) (E4 (G3 (ys := _) 3 rfl rfl G5 E0 rfl) J6))); exact ⟨ok11.2.1, ok13.2.1⟩)
theorem AB8 (code : List Int) (hcode : ByteL code) : GSpec Tryz.prog 22 [bytesI code] [] (fun x : TState × Int => x.1.size ≤ 33045) (fun x => []) (fun x => AV.tup [AV.agg x.1.cs, AV.int x.2]) := by
 refine J3 Tryz.func22 rfl Tryz.ntmps22 rfl ?_
 refine A3 (A2 ?_)
 refine F4 rfl rfl rfl rfl Tryz.zeroValue30 rfl ?_
 intro b2
 refine A1 rfl rfl rfl (C3 rfl C6) ?_
 refine A4 (A3 (A2 ?_))
 refine A6 rfl rfl rfl rfl rfl ?_
 refine A1 rfl rfl rfl (N2 (places := #[(0, 1), (1, 1), (2, 1)]) rfl N9 Tryz.zeroValue127 (fun w => by kernel_rfl) rfl (E8 (A0 rfl) (T4 _ _) I5) rfl) ?_
 refine M7 rfl rfl rfl rfl (A0 rfl) ?_
 intro b7
 refine C2 rfl rfl rfl rfl rfl ?_
 refine A4 (A3 (A2 ?_))
 refine A6 rfl rfl rfl rfl rfl ?_
 refine I8 [0] rfl rfl rfl rfl Tryz.call99 rfl (s8 _ _ hcode ⟨0, 0⟩ (by decide)) (A7 (A0 rfl) D2) rfl ?_
 intro x9 ok9
 have hp9 : x9.1.p ≤ 1310 := by (have h9 := ok9.1; dsimp only at h9; omega)
 refine A6 rfl rfl rfl rfl rfl ?_
 refine I8 [0] rfl rfl rfl rfl Tryz.call100 rfl (Q2 _ _ hcode _ _ (by omega) (by omega)) (A7 (A0 rfl) (A7 C6 D2)) rfl ?_
 intro x11 ok11
 refine D3 1 rfl rfl rfl (A0 rfl) (A0 rfl) (D8 _) rfl A8 rfl ?_
 refine C2 rfl rfl rfl rfl rfl ?_
 refine A4 ?_
 refine C8 ?_
 (refine K0 [] ((x9.2, x11.2)) ?_ rfl (by first | (dsimp only; rfl) | rfl) (Q3 rfl (by decide) (E4 (G3 (ys := _) 1 rfl rfl C4 A8 rfl) (E4 (D1 rfl (by rfl)) J6))); exact ok9.2.1)
end Go.Proofs.YtnlhbdkcgaeimaaGreat
