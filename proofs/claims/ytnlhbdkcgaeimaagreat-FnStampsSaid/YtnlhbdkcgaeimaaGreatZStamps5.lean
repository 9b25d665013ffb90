/- Texts of the claim, part 5. -/
import Derived.RangeFuncNested
import Derived.RangeFuncBound
import Derived.RangeFuncCalls
import Derived.RangeFuncLeaves
import Derived.RangeFuncBox
import Derived.Shelf.Abstract
import Derived.Shelf.RegionOpen
import Derived.WalkKit
import Derived.OwnWalkIn
import Derived.TacticsInMore
import Derived.LoopNIn
import Derived.LoopIn
import Derived.ProofKit
import Derived.OpenShut
import Derived.ShutString
import Derived.ChangeOld
import Derived.Sort.Grow
import Derived.Lib.LaidTab
import Derived.Lib.ItoaNum
import Derived.Lib.Split
import Derived.Lib.SplitLaws
import Derived.Lib.ConvBytes
import Derived.WideLaws
import Derived.SizedLaws
import Derived.Test.YtnlhbdkcgaeimaaGreatZStamps4

set_option linter.unusedVariables false
set_option linter.unusedSimpArgs false
set_option maxRecDepth 100000
set_option maxHeartbeats 1000000
namespace Go.Proofs.YtnlhbdkcgaeimaaGreat
open Go Go.AV Go.M
attribute [local irreducible] OpW OpA OpS AWP FSpec ESpec GSpec OpE RetOk RetOkG RvDen Le Ev GuardIs SrcIs Int.tmod IntKind.wrap bandI
theorem Ak1 (b : Nat) (code : List Int) (hcode : ByteL code) (c : TCur) (hp : c.p ≤ 6000000) : GSpec Tryz.prog 291 [AV.ptr b 0] [.box b 127 (curC code c)] (fun x : TCur × Str => x.1.p ≤ c.p + 2 ∧ x.2.length ≤ 64) (fun x => [.box b 127 (curC code x.1)]) (fun x => AV.str x.2) := by
 refine I2 Tryz.func291 rfl Tryz.ntmps291 rfl ?_
 refine A3 (A2 ?_)
 refine A1 rfl rfl rfl (B8 rfl (Q3 (l := []) rfl)) ?_
 refine A5 (A3 (A2 ?_))
 refine A4 rfl rfl rfl rfl rfl ?_
 refine A1 rfl rfl rfl (M3 rfl E2 F5 Tryz.zeroValue9 rfl rfl rfl rfl (E7 (Q3 (l := []) rfl) (P4 _) (E7 (Q3 (l := [49]) rfl) (P4 _) (E7 (Q3 (l := [55]) rfl) (P4 _) (E7 (Q3 (l := [49, 48]) rfl) (P4 _) (E7 (Q3 (l := [45, 51]) rfl) (P4 _) (E7 (Q3 (l := [120]) rfl) (P4 _) (E7 (Q3 (l := [97, 44, 98, 95, 99]) rfl) (P4 _) I6))))))) rfl rfl) ?_
 refine G0 [0] rfl rfl rfl rfl Tryz.call151 rfl (AV3 _ _ hcode _ ([[], [49], [55], [49, 48], [45, 51], [120], [97, 44, 98, 95, 99]] : List Str) (by decide) (by omega)) (A7 (A0 rfl) (A7 (A0 rfl) C0)) rfl ?_
 intro x5 ok5
 refine B2 rfl rfl rfl rfl rfl ?_
 refine A5 ?_
 refine C6 ?_
 (refine M8 [0] ((_, _)) ?_ rfl (by first | (dsimp only; rfl) | rfl) (Q4 rfl (C3 rfl (by rfl))); exact ok5)
theorem Ac0 (b : Nat) (code : List Int) (hcode : ByteL code) (c : TCur) (key : Str) (hp : c.p ≤ 5000000) : GSpec Tryz.prog 269 [AV.ptr b 0, AV.str key] [.box b 127 (curC code c)] (fun x : TCur × TWrite => x.1.p ≤ c.p + 4 ∧ x.2.Key = key ∧ x.2.Val.length ≤ 64) (fun x => [.box b 127 (curC code x.1)]) (fun x => AV.agg x.2.cs) := by
 refine I2 Tryz.func269 rfl Tryz.ntmps269 rfl ?_
 refine A3 (A2 ?_)
 refine F3 rfl rfl rfl rfl Tryz.zeroValue77 rfl ?_
 intro b4
 refine A5 (A3 (A3 (A2 ?_)))
 refine A4 rfl rfl rfl rfl rfl ?_
 refine G0 [1] rfl rfl rfl rfl Tryz.call79 rfl (r3 _ _ hcode _ _ (by omega) (by omega)) (A7 (A0 rfl) (A7 B5 C0)) rfl ?_
 intro x6 ok6
 refine A5 ?_
 refine C8 (A0 rfl) ?_ ?_
 ·intro h6
  refine A3 (A2 ?_)
  refine A4 rfl rfl rfl rfl rfl ?_
  refine A1 rfl rfl rfl (Q2 (places := #[(0, 1), (1, 1), (2, 1)]) rfl I3 Tryz.zeroValue77 (fun w => by kernel_rfl) rfl (E7 (A0 rfl) (P4 _) (E7 F0 (m6 _) I6)) rfl) ?_
  refine D5 1 rfl rfl rfl (A0 rfl) (A0 rfl) (E8 _) rfl H9 rfl ?_
  refine A5 ?_
  refine C6 ?_
  (refine M8 [0] ((_, ⟨_, _, _⟩)) ?_ rfl (by first | (dsimp only; rfl) | rfl) (Q4 rfl (K3 (ys := _) 1 rfl rfl S9 H9 rfl)); (dsimp only; first | exact ⟨by omega, rfl, by simp⟩ | exact ⟨by omega, rfl, ok11.2⟩))
 ·intro h6
  refine D1 (A3 (A2 ?_))
  refine A4 rfl rfl rfl rfl rfl ?_
  refine A4 rfl rfl rfl rfl rfl ?_
  refine G0 [0] rfl rfl rfl rfl Tryz.call291 rfl (Ak1 _ _ hcode _ (by omega)) (A7 (A0 rfl) C0) rfl ?_
  intro x11 ok11
  refine A1 rfl rfl rfl (Q2 (places := #[(0, 1), (1, 1), (2, 1)]) rfl I3 Tryz.zeroValue77 (fun w => by kernel_rfl) rfl (E7 (A0 rfl) (P4 _) (E7 (A0 rfl) (P4 _) I6)) rfl) ?_
  refine D5 1 rfl rfl rfl (A0 rfl) (A0 rfl) (E8 _) rfl H9 rfl ?_
  refine A5 ?_
  refine C6 ?_
  (refine M8 [0] ((_, ⟨_, _, _⟩)) ?_ rfl (by first | (dsimp only; rfl) | rfl) (Q4 rfl (K3 (ys := _) 1 rfl rfl S9 H9 rfl)); (dsimp only; first | exact ⟨by omega, rfl, by simp⟩ | exact ⟨by omega, rfl, ok11.2⟩))
def keysD : List Str := [[97], [98], [99], [105, 47, 120, 47, 49], [109], [110], [114, 47, 49], [122]]
theorem An5 {s : Str} {i : Nat} (h : keysD[i]? = some s) : s.length ≤ 5 := by
  have : ∀ s ∈ keysD, s.length ≤ 5 := by decide
  exact this s (G6 h)
theorem AX5 (b : Nat) (code : List Int) (hcode : ByteL code) (c : TCur) (hp : c.p ≤ 3000000) : GSpec Tryz.prog 219 [AV.ptr b 0] [.box b 127 (curC code c)] (fun x : TCur × List TWrite × Value => x.1.p ≤ c.p + 48 ∧ sizeL TWrite.size x.2.1 ≤ 560) (fun x => [.box b 127 (curC code x.1), .arr x.2.2 77 3 (x.2.1.map TWrite.cs)]) (fun x => AV.is x.2.2) := by
 refine I2 Tryz.func219 rfl Tryz.ntmps219 rfl ?_
 refine A3 (A2 ?_)
 refine A1 rfl rfl rfl (B8 rfl Q7) ?_
 refine A5 (A3 (A2 ?_))
 refine a7 77 3 rfl rfl rfl rfl Q7 ?_
 intro v3
 refine A5 (A3 (A3 (A2 ?_)))
 refine A1 rfl rfl rfl (M3 rfl E2 F5 Tryz.zeroValue9 rfl rfl rfl rfl (E7 (Q3 (l := [97]) rfl) (P4 _) (E7 (Q3 (l := [98]) rfl) (P4 _) (E7 (Q3 (l := [99]) rfl) (P4 _) (E7 (Q3 (l := [105, 47, 120, 47, 49]) rfl) (P4 _) (E7 (Q3 (l := [109]) rfl) (P4 _) (E7 (Q3 (l := [110]) rfl) (P4 _) (E7 (Q3 (l := [114, 47, 49]) rfl) (P4 _) (E7 (Q3 (l := [122]) rfl) (P4 _) I6)))))))) rfl rfl) ?_
 refine A1 rfl rfl rfl (H3 rfl E2 (A0 rfl)) ?_
 refine A1 rfl rfl rfl (C4 rfl B5) ?_
 refine A5 (D7 ?_)
 refine AWP.le (K1 [1, 0] rfl) ?_
 refine g9 [(0, _), (2, _), (6, _), (7, _)] _ (fun (i : Nat) (cc : TCur) (l : List TWrite) (v : Value) => i ≤ 8 ∧ cc.p ≤ c.p + 6 * i ∧ sizeL TWrite.size l ≤ 70 * i) (fun (i : Nat) (cc : TCur) (l : List TWrite) (v : Value) => [.box b 127 (curC code cc), .arr v 77 3 (l.map TWrite.cs)]) (fun (i : Nat) (cc : TCur) (l : List TWrite) (v : Value) => [(3, AV.is v), (8, AV.int i)]) (fun (i : Nat) (cc : TCur) (l : List TWrite) (v : Value) => 8 - i) (0) (c) ([]) (v3) ?_ (S7 (by rfl) ⟨rfl, rfl, rfl, rfl, rfl, rfl, trivial⟩) ?_
 ·exact ⟨by omega, by omega, by simp [sizeL]⟩
 intro i cc l v hinv
 refine A3 (A2 ?_)
 refine A1 rfl rfl rfl (J8 rfl (A0 rfl) (A0 rfl)) ?_
 refine A5 (A3 ?_)
 refine C8 (A0 rfl) ?_ ?_
 ·intro h9
  have k9 := of_decide_eq_true h9; try simp only [A6] at k9
  have hlt : i < 8 := by simp only [B3] at k9; omega
  obtain ⟨y, hy⟩ := get_some (show i < keysD.length from hlt)
  have hyl := An5 hy
  have hyy : (keysD.map fun s => [AV.str s])[i]? = some [AV.str y] := by rw [List.getElem?_map, hy]; rfl
  have hll : l.length ≤ 560 := by have := P5 (f := TWrite.size) (l := l); omega
  refine D1 (A3 (D7 (A3 (A2 ?_))))
  refine A1 rfl rfl rfl (q6 rfl E2 F5 (A0 rfl) (A0 rfl) (by omega) (by rw [Int.toNat_natCast]; exact hyy)) ?_
  refine A1 rfl rfl rfl (L6 rfl (A0 rfl) H0 rfl) ?_
  refine B2 rfl rfl rfl rfl rfl ?_
  refine A5 (A3 (A2 ?_))
  refine A4 rfl rfl rfl rfl rfl ?_
  refine G0 [0] rfl rfl rfl rfl Tryz.call79 rfl (r3 _ _ hcode _ _ (by omega) (by omega)) (A7 (A0 rfl) (A7 B5 C0)) rfl ?_
  intro x13 ok13
  refine A5 ?_
  refine C8 (A0 rfl) ?_ ?_
  ·intro h13
   refine A2 ?_
   refine A4 rfl rfl rfl rfl rfl ?_
   refine A4 rfl rfl rfl rfl rfl ?_
   refine A4 rfl rfl rfl rfl rfl ?_
   refine G0 [0] rfl rfl rfl rfl Tryz.call269 rfl (Ac0 _ _ hcode _ _ (by omega)) (A7 (A0 rfl) (A7 (A0 rfl) C0)) rfl ?_
   intro x17 ok17
   refine A1 rfl rfl rfl (M3 rfl G4 H9 Tryz.zeroValue77 rfl rfl rfl rfl (E7 (A0 rfl) (E8 _) I6) rfl rfl) ?_
   refine M9 (by' := 40) 1 rfl rfl rfl rfl G4 Tryz.type77 rfl rfl rfl rfl rfl rfl (A0 rfl) (A0 rfl) rfl (by first | omega | (simp only [A6, B0, B7, C1, B3, szR] at *; omega)) ?_
   intro v19_1
   refine B2 rfl rfl rfl rfl rfl ?_
   refine A5 (A2 ?_)
   refine A1 rfl rfl rfl (G5 rfl (A0 rfl) B5 (by first | omega | (simp only [A6, B0, B7, C1, B3, szR] at *; omega))) ?_
   refine A4 rfl rfl rfl rfl rfl ?_
   refine A5 ?_
   refine W6 i cc l v (i + 1) (x17.1) (l ++ [x17.2]) (v19_1) ?_ ?_ (Le.trans (K1 [0, 0] rfl) (S7 (by first | rfl | (rw [List.map_append]; rfl)) ⟨rfl, rfl, rfl, rfl, rfl, rfl, trivial⟩))
   ·exact ⟨by omega, by omega, by (have h9 : x17.2.size ≤ 69 := by unfold TWrite.size; rw [ok17.2.1]; omega); rw [show sizeL TWrite.size (l ++ [x17.2]) = sizeL TWrite.size l + x17.2.size + 1 from by unfold sizeL; simp; omega]; omega⟩
   ·omega
  ·intro h13
   refine D1 (A2 ?_)
   refine A1 rfl rfl rfl (G5 rfl (A0 rfl) B5 (by first | omega | (simp only [A6, B0, B7, C1, B3, szR] at *; omega))) ?_
   refine A4 rfl rfl rfl rfl rfl ?_
   refine A5 ?_
   refine W6 i cc l v (i + 1) (x13.1) (l) (v) ?_ ?_ (Le.trans (K1 [0, 0] rfl) (S7 (by first | rfl | (rw [List.map_append]; rfl)) ⟨rfl, rfl, rfl, rfl, rfl, rfl, trivial⟩))
   ·exact ⟨by omega, by omega, by omega⟩
   ·omega
 ·intro h9
  have k9 := of_decide_eq_false h9; try simp only [A6] at k9
  refine H4 ?_
  refine A3 (A2 ?_)
  refine A4 rfl rfl rfl rfl rfl ?_
  refine B2 rfl rfl rfl rfl rfl ?_
  refine A5 ?_
  refine C6 ?_
  (refine M8 [0, 0] ((cc, l, v)) ?_ rfl (by first | (dsimp only; rfl) | rfl) (Q4 rfl (C3 rfl (by rfl))); exact ⟨show cc.p ≤ _ by omega, show sizeL TWrite.size l ≤ _ by omega⟩)
end Go.Proofs.YtnlhbdkcgaeimaaGreat

set_option linter.unusedVariables false
set_option linter.unusedSimpArgs false
set_option maxRecDepth 100000
set_option maxHeartbeats 2000000
namespace Go.M
open Go.AV
theorem AV9 (s : Str) : ∀ l : List Str, sizeL (fun x : Str => x.length) (putS l s) ≤ sizeL (fun x : Str => x.length) l + s.length + 1
  | [] => by unfold putS sizeL; simp; omega
  | y :: l => by
    have ih := AV9 s l
    have hc : ∀ (z : Str) (q : List Str), sizeL (fun x : Str => x.length) (z :: q) = sizeL (fun x : Str => x.length) q + z.length + 1 := fun z q => by unfold sizeL; simp; omega
    unfold putS
    split
    · rw [hc s]; omega
    · split
      · omega
      · rw [hc, hc]; omega
end Go.M
namespace Go.Proofs.YtnlhbdkcgaeimaaGreat
open Go Go.AV Go.M
attribute [local irreducible] OpW OpA OpS AWP FSpec ESpec GSpec OpE RetOk RetOkG RvDen Le Ev GuardIs SrcIs Int.tmod Int.tdiv IntKind.wrap bandI
theorem o4 (a b : Int) : FSpec Tryz.prog 130 [AV.int a, AV.int b] (AV.int (if b < a then a else b)) := by
 refine D9 Tryz.func130 rfl Tryz.ntmps130 rfl ?_
 refine A3 (A2 ?_)
 refine A1 rfl rfl rfl (B8 rfl B5) ?_
 refine A5 (A3 (A3 (A2 ?_)))
 refine A4 rfl rfl rfl rfl rfl ?_
 refine A4 rfl rfl rfl rfl rfl ?_
 refine A1 rfl rfl rfl (O5 rfl (A0 rfl) (A0 rfl)) ?_
 refine A5 ?_
 refine C8 (A0 rfl) ?_ ?_
 ·intro h7
  have k7 := of_decide_eq_true h7; try simp only [A6] at k7
  rw [if_pos (of_decide_eq_true h7)]
  refine A3 (A2 ?_)
  refine A4 rfl rfl rfl rfl rfl ?_
  refine B2 rfl rfl rfl rfl rfl ?_
  refine A5 ?_
  refine C6 ?_
  exact H1 rfl (C3 rfl (by rfl))
 ·intro h7
  have k7 := of_decide_eq_false h7; try simp only [A6] at k7
  rw [if_neg (of_decide_eq_false h7)]
  refine D1 (A3 (A2 ?_))
  refine A4 rfl rfl rfl rfl rfl ?_
  refine B2 rfl rfl rfl rfl rfl ?_
  refine A5 ?_
  refine C6 ?_
  exact H1 rfl (C3 rfl (by rfl))
theorem Ak2 (b : Nat) (code : List Int) (hcode : ByteL code) (c : TCur) (hp : c.p ≤ 2000000) : GSpec Tryz.prog 175 [AV.ptr b 0] [.box b 127 (curC code c)] (fun x : TCur × TRec × Value × Value => x.1.p ≤ c.p + 100 ∧ x.2.1.size ≤ 1000 ∧ 0 ≤ x.2.1.Lead ∧ x.2.1.Lead ≤ 3 ∧ 0 ≤ x.2.1.Time ∧ x.2.1.Time ≤ 100001) (fun x => .box b 127 (curC code x.1) :: TRec.ow x.2.1 x.2.2) (fun x => AV.agg (TRec.ocs x.2.1 x.2.2)) := by
 refine I2 Tryz.func175 rfl Tryz.ntmps175 rfl ?_
 refine A3 (A2 ?_)
 refine F3 rfl rfl rfl rfl Tryz.zeroValue49 rfl ?_
 intro b2
 refine A5 (A3 (A2 ?_))
 refine A4 rfl rfl rfl rfl rfl ?_
 refine G0 [1] rfl rfl rfl rfl Tryz.call100 rfl (N3 _ _ hcode _ _ (by omega) (by omega)) (A7 (A0 rfl) (A7 B5 C0)) rfl ?_
 intro x6 ok6
 refine A1 rfl rfl rfl (G5 rfl B5 (A0 rfl) (by first | omega | (simp only [A6, B0, B7, C1, B3, szR] at *; omega))) ?_
 refine A4 rfl rfl rfl rfl rfl ?_
 refine G0 [0] rfl rfl rfl rfl Tryz.call100 rfl (N3 _ _ hcode _ _ (by omega) (by omega)) (A7 (A0 rfl) (A7 B5 C0)) rfl ?_
 intro x9 ok9
 refine A1 rfl rfl rfl (G5 rfl B5 (A0 rfl) (by first | omega | (simp only [A6, B0, B7, C1, B3, szR] at *; omega))) ?_
 refine A4 rfl rfl rfl rfl rfl ?_
 refine G0 [0] rfl rfl rfl rfl Tryz.call100 rfl (N3 _ _ hcode _ _ (by omega) (by omega)) (A7 (A0 rfl) (A7 B5 C0)) rfl ?_
 intro x12 ok12
 refine A1 rfl rfl rfl (G5 rfl B5 (A0 rfl) (by first | omega | (simp only [A6, B0, B7, C1, B3, szR] at *; omega))) ?_
 refine A1 rfl rfl rfl (Q2 (places := #[(0, 1), (1, 1), (2, 1), (3, 1), (4, 1), (5, 1), (6, 1)]) rfl C5 Tryz.zeroValue49 (fun w => by kernel_rfl) rfl (E7 (A0 rfl) (K8 _ _) (E7 (A0 rfl) (K8 _ _) (E7 (A0 rfl) (K8 _ _) I6))) rfl) ?_
 refine F3 rfl rfl rfl rfl Tryz.zeroValue49 rfl ?_
 intro b3
 refine D5 0 rfl rfl rfl (A0 rfl) (A0 rfl) (E8 _) rfl H5 rfl ?_
 refine A5 (A3 (A3 (A2 ?_)))
 refine A1 rfl rfl rfl (B6 0 rfl C5 rfl B9 (A0 rfl) rfl) ?_
 refine A1 rfl rfl rfl (B4 0 rfl (A0 rfl) rfl C7 rfl) ?_
 refine A5 (D7 (A3 (A2 ?_)))
 refine A1 rfl rfl rfl (M5 rfl (A0 rfl) B5) ?_
 refine B2 rfl rfl rfl rfl rfl ?_
 refine A5 ?_
 refine C8 (A0 rfl) ?_ ?_
 ·intro h24
  have k24 := N6 h24; try simp only [A6] at k24
  refine A3 (A2 ?_)
  refine A4 rfl rfl rfl rfl rfl ?_
  refine G0 [1] rfl rfl rfl rfl Tryz.call100 rfl (N3 _ _ hcode _ _ (by omega) (by omega)) (A7 (A0 rfl) (A7 B5 C0)) rfl ?_
  intro x27 ok27
  refine A1 rfl rfl rfl (B6 3 rfl C5 rfl B9 (A0 rfl) rfl) ?_
  refine L0 1 rfl rfl rfl (A0 rfl) (A0 rfl) (K8 _ _) rfl B9 rfl ?_
  refine A5 (A3 (A3 (A2 ?_)))
  refine A4 rfl rfl rfl rfl rfl ?_
  refine G0 [0] rfl rfl rfl rfl Tryz.call100 rfl (N3 _ _ hcode _ _ (by omega) (by omega)) (A7 (A0 rfl) (A7 B5 C0)) rfl ?_
  intro x30 ok30
  refine B2 rfl rfl rfl rfl rfl ?_
  refine A5 (D7 ?_)
  refine f5 9 1 ?_
  refine AWP.le (K1 [2, 1, 0] rfl) ?_
  refine g9 [(0, _), (2, _), (3, _)] _ (fun (n : Int) (cc : TCur) (l : List Str) (v : Value) => (0 ≤ n ∧ n + l.length ≤ 3) ∧ cc.p + 4 * n ≤ c.p + 22 ∧ SrtS l ∧ sizeL (fun x : Str => x.length) l + 70 * n ≤ 210) (fun (n : Int) (cc : TCur) (l : List Str) (v : Value) => [.box b3 49 [AV.int (1 + x6.2), AV.int (1 + x9.2), AV.int (1 + x12.2), AV.int x27.2, AV.is v, AV.nils, AV.bool false], .box b 127 (curC code cc), .arr v 9 1 (l.map fun t => [AV.str t])]) (fun (n : Int) (cc : TCur) (l : List Str) (v : Value) => [(4, AV.int n)]) (fun (n : Int) (cc : TCur) (l : List Str) (v : Value) => n.toNat) (x30.2) (x30.1) ([]) ((Value.slice none 0 0)) ?_ (S7 (by rfl) ⟨rfl, rfl, rfl, rfl, trivial⟩) ?_
  ·exact ⟨⟨by omega, by simp; omega⟩, by omega, List.Pairwise.nil, by simp [sizeL]; omega⟩
  intro n cc l v hinv
  refine A3 (A3 (A2 ?_))
  refine A4 rfl rfl rfl rfl rfl ?_
  refine A1 rfl rfl rfl (O5 rfl (A0 rfl) B5) ?_
  refine A5 ?_
  refine C8 (A0 rfl) ?_ ?_
  ·intro h32
   have k32 := of_decide_eq_true h32; try simp only [A6] at k32
   refine D1 (A3 (D7 ?_))
   refine W5 _ [(0, false), (1, false), (2, false), (3, true), (4, true)] (by kernel_rfl) (by kernel_rfl) rfl (c0 1) ?_
   refine I7 rfl rfl rfl (fun ext => B6 4 rfl C5 rfl L9 (A0 rfl) rfl) ?_
   refine I7 rfl rfl rfl (fun ext => B4 0 rfl (A0 rfl) rfl P6 rfl) ?_
   refine I7 rfl rfl rfl (fun ext => C4 rfl (A0 rfl)) ?_
   refine V9 rfl rfl rfl (AC1 [1] rfl Tryz.call116 rfl (AP7 _ _ hcode _ (by omega)) (A7 (A0 rfl) C0) rfl) (fun a _ => (by first | exact G7 rfl | exact G7 (List.append_assoc _ _ _) | exact K9)) ?_
   intro x38 ok38
   refine V9 rfl rfl rfl (AC1 [1] rfl Tryz.call122 rfl (AD2 v l x38.2 hinv.2.2.1 (by omega)) (A7 (A0 rfl) (A7 (A0 rfl) C0)) rfl) (fun a _ => (by first | exact G7 rfl | exact G7 (List.append_assoc _ _ _) | exact K9)) ?_
   intro x39 ok39
   refine s7 ?_
   refine A1 rfl rfl rfl (B6 4 rfl C5 rfl L9 (A0 rfl) rfl) ?_
   refine W4 3 rfl fun one_x39 => ?_
   refine L0 0 rfl rfl rfl (A0 rfl) (A0 rfl) (V5 one_x39) rfl L9 rfl ?_
   refine A5 (A2 ?_)
   refine A4 rfl rfl rfl rfl rfl ?_
   refine A1 rfl rfl rfl (N1 rfl (A0 rfl) B5 (by first | omega | (simp only [A6, B0, B7, C1, B3, szR] at *; omega))) ?_
   refine B2 rfl rfl rfl rfl rfl ?_
   refine A5 ?_
   refine W6 n cc l v (n - 1) (x38.1) (putS l x38.2) (x39) ?_ ?_ (Le.trans (K1 [0, 1, 1] rfl) (S7 (by rfl) ⟨rfl, rfl, rfl, rfl, trivial⟩))
   ·(have h9 := AM3 x38.2 l; have h8 := AV9 x38.2 l; exact ⟨⟨by omega, by omega⟩, by omega, (AM2 hinv.2.2.1).1, by omega⟩)
   ·omega
  ·intro h32
   have k32 := of_decide_eq_false h32; try simp only [A6] at k32
   refine H4 ?_
   refine A3 (A2 ?_)
   refine A4 rfl rfl rfl rfl rfl ?_
   refine G0 [1] rfl rfl rfl rfl Tryz.call219 rfl (AX5 _ _ hcode _ (by omega)) (A7 (A0 rfl) C0) rfl ?_
   intro x42 ok42
   refine A1 rfl rfl rfl (B6 5 rfl C5 rfl J7 (A0 rfl) rfl) ?_
   refine W4 1 rfl fun one_x42_2_2 => ?_
   refine L0 2 rfl rfl rfl (A0 rfl) (A0 rfl) (V5 one_x42_2_2) rfl J7 rfl ?_
   refine A5 (A3 (A2 ?_))
   refine A1 rfl rfl rfl (B6 4 rfl C5 rfl L9 (A0 rfl) rfl) ?_
   refine A1 rfl rfl rfl (B4 2 rfl (A0 rfl) rfl P6 rfl) ?_
   refine A1 rfl rfl rfl (U5 3 rfl E2 (A0 rfl) rfl) ?_
   refine A1 rfl rfl rfl (B6 5 rfl C5 rfl J7 (A0 rfl) rfl) ?_
   refine A1 rfl rfl rfl (B4 2 rfl (A0 rfl) rfl L3 rfl) ?_
   refine A1 rfl rfl rfl (U5 1 rfl G4 (A0 rfl) rfl) ?_
   refine A1 rfl rfl rfl (G5 rfl (A0 rfl) (A0 rfl) (by simp only [A6]; have h9 := P5 (f := TWrite.size) (l := x42.2.1); omega)) ?_
   refine A1 rfl rfl rfl (M5 rfl (A0 rfl) B5) ?_
   refine A5 ?_
   refine C8 (A0 rfl) ?_ ?_
   ·intro h51
    have k51 := N6 h51; try simp only [A6] at k51
    refine A2 ?_
    refine Ah8 rfl rfl rfl rfl E2 F5 Tryz.zeroValue9 rfl rfl rfl rfl (E7 (Q3 (l := [97]) rfl) (P4 _) I6) rfl rfl ?_
    intro v52
    refine A1 rfl rfl rfl (B6 4 rfl C5 rfl L9 (A0 rfl) rfl) ?_
    refine W4 0 rfl fun one_v52 => ?_
    refine L0 3 rfl rfl rfl (A0 rfl) (A0 rfl) (V5 one_v52) rfl L9 rfl ?_
    refine A5 (A3 (A2 ?_))
    refine A1 rfl rfl rfl (E4 3 rfl (A0 rfl) rfl O3 H5 rfl) ?_
    refine D5 5 rfl rfl rfl (A0 rfl) (A0 rfl) (E8 _) rfl H5 rfl ?_
    refine A5 ?_
    refine C6 ?_
    (refine M8 [1, 0, 0] ((x42.1, ⟨1 + x6.2, 1 + x9.2, 1 + x12.2, x27.2, [[97]], x42.2.1, false⟩, v52, x42.2.2)) ?_ rfl (by first | (dsimp only; rfl) | rfl) (Q4 rfl (K3 (ys := _) 5 rfl rfl O3 H5 rfl)); (dsimp only [TRec.size]; exact ⟨by omega, by first | (simp [sizeL]; done) | (simp only [sizeL, B7, C1, List.map_cons, List.map_nil, List.sum_cons, List.sum_nil] at *; omega) | omega, by omega, by omega, by omega, by omega⟩))
   ·intro h51
    have k51 := N5 h51; try simp only [A6] at k51
    refine D1 (A3 (A2 ?_))
    refine A1 rfl rfl rfl (E4 2 rfl (A0 rfl) rfl O3 H5 rfl) ?_
    refine D5 4 rfl rfl rfl (A0 rfl) (A0 rfl) (E8 _) rfl H5 rfl ?_
    refine A5 ?_
    refine C6 ?_
    (refine M8 [0, 2, 0] ((x42.1, ⟨1 + x6.2, 1 + x9.2, 1 + x12.2, x27.2, l, x42.2.1, false⟩, v, x42.2.2)) ?_ rfl (by first | (dsimp only; rfl) | rfl) (Q4 rfl (K3 (ys := _) 4 rfl rfl O3 H5 rfl)); (dsimp only [TRec.size]; exact ⟨by omega, by first | (simp [sizeL]; done) | (simp only [sizeL, B7, C1, List.map_cons, List.map_nil, List.sum_cons, List.sum_nil] at *; omega) | omega, by omega, by omega, by omega, by omega⟩))
 ·intro h24
  have k24 := N5 h24; try simp only [A6] at k24
  refine A3 (A2 ?_)
  refine A1 rfl rfl rfl (M5 rfl (A0 rfl) B5) ?_
  refine B2 rfl rfl rfl rfl rfl ?_
  refine A5 ?_
  refine C8 (A0 rfl) ?_ ?_
  ·intro h54
   have k54 := N6 h54; try simp only [A6] at k54
   refine A2 ?_
   refine A1 rfl rfl rfl (B6 1 rfl C5 rfl B9 (A0 rfl) rfl) ?_
   refine L0 0 rfl rfl rfl (A0 rfl) B5 (K8 _ _) rfl B9 rfl ?_
   refine A5 (A3 (A2 ?_))
   refine A1 rfl rfl rfl (E4 0 rfl (A0 rfl) rfl O3 H5 rfl) ?_
   refine D5 2 rfl rfl rfl (A0 rfl) (A0 rfl) (E8 _) rfl H5 rfl ?_
   refine A5 ?_
   refine C6 ?_
   refine j0 9 1 ?_
   refine j0 77 3 ?_
   (refine M8 [3, 1, 0] ((x12.1, ⟨1 + x6.2, 0, 1 + x12.2, 0, [], [], false⟩, Value.slice none 0 0, Value.slice none 0 0)) ?_ rfl (by first | (dsimp only; rfl) | rfl) (Q4 rfl (K3 (ys := _) 4 rfl rfl O3 H5 rfl)); (dsimp only [TRec.size]; exact ⟨by omega, by first | (simp [sizeL]; done) | (simp only [sizeL, B7, C1, List.map_cons, List.map_nil, List.sum_cons, List.sum_nil] at *; omega) | omega, by omega, by omega, by omega, by omega⟩))
  ·intro h54
   have k54 := N5 h54; try simp only [A6] at k54
   refine A3 (A2 ?_)
   refine A4 rfl rfl rfl rfl rfl ?_
   refine G0 [1] rfl rfl rfl rfl Tryz.call79 rfl (r3 _ _ hcode _ _ (by omega) (by omega)) (A7 (A0 rfl) (A7 B5 C0)) rfl ?_
   intro x18 ok18
   refine A1 rfl rfl rfl (B6 6 rfl C5 rfl K5 (A0 rfl) rfl) ?_
   refine L0 1 rfl rfl rfl (A0 rfl) (A0 rfl) (m6 _) rfl K5 rfl ?_
   refine A5 (A3 (A2 ?_))
   refine A1 rfl rfl rfl (B6 6 rfl C5 rfl K5 (A0 rfl) rfl) ?_
   refine A1 rfl rfl rfl (B4 1 rfl (A0 rfl) rfl M6 rfl) ?_
   refine A1 rfl rfl rfl (I4 rfl (A0 rfl)) ?_
   refine A5 ?_
   refine C8 (A0 rfl) ?_ ?_
   ·intro h22
    refine A2 ?_
    refine A1 rfl rfl rfl (B6 2 rfl C5 rfl B9 (A0 rfl) rfl) ?_
    refine L0 1 rfl rfl rfl (A0 rfl) B5 (K8 _ _) rfl B9 rfl ?_
    refine A5 (A3 (A2 ?_))
    refine A1 rfl rfl rfl (E4 1 rfl (A0 rfl) rfl O3 H5 rfl) ?_
    refine D5 2 rfl rfl rfl (A0 rfl) (A0 rfl) (E8 _) rfl H5 rfl ?_
    refine A5 ?_
    refine C6 ?_
    refine j0 9 1 ?_
    refine j0 77 3 ?_
    (refine M8 [2, 1, 0] ((x18.1, ⟨1 + x6.2, 1 + x9.2, 0, 0, [], [], x18.2⟩, Value.slice none 0 0, Value.slice none 0 0)) ?_ rfl (by first | (dsimp only; rfl) | rfl) (Q4 rfl (K3 (ys := _) 4 rfl rfl O3 H5 rfl)); (dsimp only [TRec.size]; exact ⟨by omega, by first | (simp [sizeL]; done) | (simp only [sizeL, B7, C1, List.map_cons, List.map_nil, List.sum_cons, List.sum_nil] at *; omega) | omega, by omega, by omega, by omega, by omega⟩))
   ·intro h22
    refine D1 (A3 (A2 ?_))
    refine A1 rfl rfl rfl (E4 1 rfl (A0 rfl) rfl O3 H5 rfl) ?_
    refine D5 2 rfl rfl rfl (A0 rfl) (A0 rfl) (E8 _) rfl H5 rfl ?_
    refine A5 ?_
    refine C6 ?_
    refine j0 9 1 ?_
    refine j0 77 3 ?_
    (refine M8 [2, 1, 0] ((x18.1, ⟨1 + x6.2, 1 + x9.2, 1 + x12.2, 0, [], [], x18.2⟩, Value.slice none 0 0, Value.slice none 0 0)) ?_ rfl (by first | (dsimp only; rfl) | rfl) (Q4 rfl (K3 (ys := _) 4 rfl rfl O3 H5 rfl)); (dsimp only [TRec.size]; exact ⟨by omega, by first | (simp [sizeL]; done) | (simp only [sizeL, B7, C1, List.map_cons, List.map_nil, List.sum_cons, List.sum_nil] at *; omega) | omega, by omega, by omega, by omega, by omega⟩))
end Go.Proofs.YtnlhbdkcgaeimaaGreat

set_option linter.unusedVariables false
set_option linter.unusedSimpArgs false
set_option maxRecDepth 100000
set_option maxHeartbeats 2000000
namespace Go.Proofs.YtnlhbdkcgaeimaaGreat
open Go Go.AV Go.M
attribute [local irreducible] OpW OpA OpS AWP FSpec ESpec GSpec OpE RetOk RetOkG RvDen Le Ev GuardIs SrcIs SrcE Int.tmod Int.tdiv IntKind.wrap bandI
theorem AX6 (s : TState) (y : Value × Value) (hs : s.size ≤ 1048576) : GSpec Tryz.prog 107 [AV.agg (TState.ocs s y)] (TState.ow s y) (fun _ : Value × Value => True) (fun x => TState.ow s y ++ TState.ow s x) (fun x => AV.agg (TState.ocs s x)) := by
 obtain ⟨hs1, hs2, hs3, hs4, hs5⟩ := T6 hs
 refine I2 Tryz.func107 rfl Tryz.ntmps107 rfl ?_
 refine A3 (A2 ?_)
 refine J6 rfl rfl rfl rfl (A0 rfl) ?_
 intro b1
 refine F3 rfl rfl rfl rfl Tryz.zeroValue30 rfl ?_
 intro b2
 refine A5 (A3 ?_)
 refine d4 _ 11 (.pure 0 (.pure 1 (.pure 2 (.pure 3 (.pure 4 (.pure 6 (.pure 7 (.e2 5 (.e2 8 (.pure 9 (.e1 10 .nil)) 10 (.e1 8 (.pure 9 .nil))) 10 (.e1 5 (.e1 8 (.pure 9 .nil))))))))))) (by kernel_rfl) (by kernel_rfl) rfl AF5 ?_
 refine M4 rfl rfl rfl (fun ext => B6 0 rfl D4 rfl B9 (A0 rfl) rfl) ?_
 refine M4 rfl rfl rfl (fun ext => B4 1 rfl (A0 rfl) rfl C7 rfl) ?_
 refine M4 rfl rfl rfl (fun ext => B6 1 rfl D4 rfl P8 (A0 rfl) rfl) ?_
 refine M4 rfl rfl rfl (fun ext => B4 1 rfl (A0 rfl) rfl Q8 rfl) ?_
 refine M4 rfl rfl rfl (fun ext => D6 rfl Tryz.call208 rfl (Ae3 s.Cells (by omega)) (A7 (A0 rfl) C0)) ?_
 refine M4 rfl rfl rfl (fun ext => B6 3 rfl D4 rfl P2 (A0 rfl) rfl) ?_
 refine M4 rfl rfl rfl (fun ext => B4 1 rfl (A0 rfl) rfl T0 rfl) ?_
 refine AY3 ?_ ?_
 ·refine V6 rfl rfl rfl (c3 rfl H8 K6) (fun a _ => (by first | exact G7 rfl | exact G7 (List.append_assoc _ _ _) | exact K9)) ?_
  intro v11 _
  refine AY3 ?_ ?_
  ·refine V6 rfl rfl rfl (n0 4 (fun _ => rfl) (y9 (by' := 24) 4 rfl H8 Tryz.type39 rfl rfl rfl rfl rfl rfl (A0 rfl) (AN0 3 rfl (A0 rfl)) rfl (by simp only [C1, A6]; omega))) (fun a _ => (by first | exact G7 rfl | exact G7 (List.append_assoc _ _ _) | exact K9)) ?_
   intro v14_1 hone_v14_1
   have one_v14_1 := hone_v14_1.2
   refine M4 rfl rfl rfl (fun ext => Q2 (places := #[(0, 1), (1, 1), (2, 1), (3, 1)]) rfl D4 Tryz.zeroValue30 (fun w => by kernel_rfl) rfl (E7 (A0 rfl) (K8 _ _) (E7 (A0 rfl) (W1 _ _) (E7 (A0 rfl) (V5 one_v14_1) I6))) rfl) ?_
   refine Z9 ?_
   refine V6 rfl rfl rfl (AG2 rfl Tryz.zeroValue30 rfl) (fun a _ => (by first | exact G7 rfl | exact G7 (List.append_assoc _ _ _) | exact K9)) ?_
   intro b3 _
   refine p4 ?_
   refine D5 5 rfl rfl rfl (A0 rfl) (A0 rfl) (E8 _) rfl D3 rfl ?_
   refine A5 (A3 (A3 (A2 ?_)))
   refine A1 rfl rfl rfl (B6 2 rfl D4 rfl I1 (A0 rfl) rfl) ?_
   refine A1 rfl rfl rfl (B4 1 rfl (A0 rfl) rfl M0 rfl) ?_
   refine A1 rfl rfl rfl (U5 2 rfl E5 (A0 rfl) rfl) ?_
   refine A1 rfl rfl rfl (C4 rfl B5) ?_
   refine A5 (D7 ?_)
   refine f5 45 5 ?_
   refine AWP.le (K1 [6, 0] rfl) ?_
   refine T5 [(2, _), (3, _), (17, _), (18, _)] _ (fun (i : Nat) (v : Value) => i ≤ s.Held.length) (fun (i : Nat) (v : Value) => [.box b3 30 [AV.int s.Floor, AV.list 2 (s.Cells.map TCell.cs), AV.is v, AV.is v14_1], .arr v 45 5 ((s.Held.take i).map THeld.cs)]) (fun (i : Nat) (v : Value) => [(19, AV.int i)]) (fun (i : Nat) (v : Value) => s.Held.length - i) (0) ((Value.slice none 0 0)) ?_ (S7 (by rfl) ⟨rfl, rfl, rfl, rfl, rfl, trivial⟩) ?_
   ·exact Nat.zero_le _
   intro i v hinv
   refine A3 (A2 ?_)
   refine A1 rfl rfl rfl (J8 rfl (A0 rfl) (A0 rfl)) ?_
   refine A5 (A3 ?_)
   refine C8 (A0 rfl) ?_ ?_
   ·intro h20
    have k20 := of_decide_eq_true h20; try simp only [A6] at k20
    have hlt : i < s.Held.length := by omega
    obtain ⟨h, hx⟩ := get_some hlt
    obtain ⟨g1, g2, g3, g4, g5⟩ := Y3 hs2 hx
    have hrow : (s.Held.map THeld.cs)[((i : Nat) : Int).toNat]? = some h.cs := by (rw [Int.toNat_natCast, List.getElem?_map, hx]; rfl)
    refine D1 (A3 (D7 (A3 (A2 ?_))))
    refine A1 rfl rfl rfl (V8 4 rfl E5 E1 (A0 rfl) rfl (A0 rfl) (by omega) (by first | omega | (simp only [A6]; omega))) ?_
    refine A1 rfl rfl rfl (k0 4 rfl (A0 rfl) rfl J3 E1 hrow (by decide)) ?_
    refine F3 rfl rfl rfl rfl Tryz.zeroValue45 rfl ?_
    intro b5
    refine D5 0 rfl rfl rfl (A0 rfl) (A0 rfl) (E8 _) rfl E1 rfl ?_
    refine A5 ?_
    refine d2 5 (by kernel_rfl) (by kernel_rfl) rfl ?_
    refine C2 rfl rfl (B6 2 rfl D4 rfl I1 (A0 rfl) rfl) ?_
    refine C2 rfl rfl (B4 1 rfl (A0 rfl) rfl M0 rfl) ?_
    refine C2 rfl rfl (E4 0 rfl (A0 rfl) rfl J3 E1 rfl) ?_
    refine C2 rfl rfl (D6 rfl Tryz.call106 rfl (t2 _ (by first | assumption | omega)) (A7 (A0 rfl) C0)) ?_
    refine C2 rfl rfl (M3 rfl E5 E1 Tryz.zeroValue45 rfl rfl rfl rfl (E7 (A0 rfl) (E8 _) I6) rfl rfl) ?_
    refine Q9 ?_
    refine M9 (by' := 72) 2 rfl rfl rfl rfl E5 Tryz.type45 rfl rfl rfl rfl rfl rfl (A0 rfl) (A0 rfl) rfl (by simp only [A6, B0, B3]; omega) ?_
    intro v28_2
    refine A1 rfl rfl rfl (B6 2 rfl D4 rfl I1 (A0 rfl) rfl) ?_
    refine W4 2 rfl fun one_v28_2 => ?_
    refine L0 1 rfl rfl rfl (A0 rfl) (A0 rfl) (V5 one_v28_2) rfl I1 rfl ?_
    refine A5 (A2 ?_)
    refine A1 rfl rfl rfl (G5 rfl (A0 rfl) B5 (by first | omega | (simp only [A6, B0, B7, C1, B3, szR] at *; omega))) ?_
    refine A4 rfl rfl rfl rfl rfl ?_
    refine A5 ?_
    refine S5 i v (i + 1) (v28_2) ?_ ?_ (Le.trans (K1 [0, 0, 0] rfl) (N0 1 (by exact congrArg (fun z => Own.box b3 30 [AV.int s.Floor, AV.list 2 (s.Cells.map TCell.cs), AV.is v28_2, AV.is v14_1] :: Own.arr v28_2 45 5 z :: _) (c7 (f := THeld.cs) hx)) ⟨rfl, rfl, rfl, rfl, rfl, trivial⟩))
    ·omega
    ·omega
   ·intro h20
    have k20 := of_decide_eq_false h20; try simp only [A6] at k20
    have hge : i = s.Held.length := by omega
    rw [hge, List.take_length]
    refine H4 ?_
    refine A3 (A2 ?_)
    refine A1 rfl rfl rfl (E4 0 rfl (A0 rfl) rfl F1 D3 rfl) ?_
    refine D5 2 rfl rfl rfl (A0 rfl) (A0 rfl) (E8 _) rfl D3 rfl ?_
    refine A5 ?_
    refine C6 ?_
    exact M8 [4, 4, 1, 3] (v, v14_1) (trivial) rfl (by rfl) (Q4 rfl (K3 (ys := _) 2 rfl rfl F1 D3 rfl))
  ·refine V6 rfl rfl rfl (AG2 rfl Tryz.zeroValue30 rfl) (fun a _ => (by first | exact G7 rfl | exact G7 (List.append_assoc _ _ _) | exact K9)) ?_
   intro b3 _
   refine Z9 ?_
   refine V6 rfl rfl rfl (n0 4 (fun _ => rfl) (y9 (by' := 24) 4 rfl H8 Tryz.type39 rfl rfl rfl rfl rfl rfl (A0 rfl) (AN0 3 rfl (A0 rfl)) rfl (by simp only [C1, A6]; omega))) (fun a _ => (by first | exact G7 rfl | exact G7 (List.append_assoc _ _ _) | exact K9)) ?_
   intro v14_3 hone_v14_3
   have one_v14_3 := hone_v14_3.2
   refine M4 rfl rfl rfl (fun ext => Q2 (places := #[(0, 1), (1, 1), (2, 1), (3, 1)]) rfl D4 Tryz.zeroValue30 (fun w => by kernel_rfl) rfl (E7 (A0 rfl) (K8 _ _) (E7 (A0 rfl) (W1 _ _) (E7 (A0 rfl) (V5 one_v14_3) I6))) rfl) ?_
   refine p4 ?_
   refine D5 5 rfl rfl rfl (A0 rfl) (A0 rfl) (E8 _) rfl D3 rfl ?_
   refine A5 (A3 (A3 (A2 ?_)))
   refine A1 rfl rfl rfl (B6 2 rfl D4 rfl I1 (A0 rfl) rfl) ?_
   refine A1 rfl rfl rfl (B4 1 rfl (A0 rfl) rfl M0 rfl) ?_
   refine A1 rfl rfl rfl (U5 2 rfl E5 (A0 rfl) rfl) ?_
   refine A1 rfl rfl rfl (C4 rfl B5) ?_
   refine A5 (D7 ?_)
   refine f5 45 5 ?_
   refine AWP.le (K1 [6, 0] rfl) ?_
   refine T5 [(2, _), (3, _), (17, _), (18, _)] _ (fun (i : Nat) (v : Value) => i ≤ s.Held.length) (fun (i : Nat) (v : Value) => [.box b3 30 [AV.int s.Floor, AV.list 2 (s.Cells.map TCell.cs), AV.is v, AV.is v14_3], .arr v 45 5 ((s.Held.take i).map THeld.cs)]) (fun (i : Nat) (v : Value) => [(19, AV.int i)]) (fun (i : Nat) (v : Value) => s.Held.length - i) (0) ((Value.slice none 0 0)) ?_ (S7 (by rfl) ⟨rfl, rfl, rfl, rfl, rfl, trivial⟩) ?_
   ·exact Nat.zero_le _
   intro i v hinv
   refine A3 (A2 ?_)
   refine A1 rfl rfl rfl (J8 rfl (A0 rfl) (A0 rfl)) ?_
   refine A5 (A3 ?_)
   refine C8 (A0 rfl) ?_ ?_
   ·intro h20
    have k20 := of_decide_eq_true h20; try simp only [A6] at k20
    have hlt : i < s.Held.length := by omega
    obtain ⟨h, hx⟩ := get_some hlt
    obtain ⟨g1, g2, g3, g4, g5⟩ := Y3 hs2 hx
    have hrow : (s.Held.map THeld.cs)[((i : Nat) : Int).toNat]? = some h.cs := by (rw [Int.toNat_natCast, List.getElem?_map, hx]; rfl)
    refine D1 (A3 (D7 (A3 (A2 ?_))))
    refine A1 rfl rfl rfl (V8 4 rfl E5 E1 (A0 rfl) rfl (A0 rfl) (by omega) (by first | omega | (simp only [A6]; omega))) ?_
    refine A1 rfl rfl rfl (k0 4 rfl (A0 rfl) rfl J3 E1 hrow (by decide)) ?_
    refine F3 rfl rfl rfl rfl Tryz.zeroValue45 rfl ?_
    intro b5
    refine D5 0 rfl rfl rfl (A0 rfl) (A0 rfl) (E8 _) rfl E1 rfl ?_
    refine A5 ?_
    refine d2 5 (by kernel_rfl) (by kernel_rfl) rfl ?_
    refine C2 rfl rfl (B6 2 rfl D4 rfl I1 (A0 rfl) rfl) ?_
    refine C2 rfl rfl (B4 1 rfl (A0 rfl) rfl M0 rfl) ?_
    refine C2 rfl rfl (E4 0 rfl (A0 rfl) rfl J3 E1 rfl) ?_
    refine C2 rfl rfl (D6 rfl Tryz.call106 rfl (t2 _ (by first | assumption | omega)) (A7 (A0 rfl) C0)) ?_
    refine C2 rfl rfl (M3 rfl E5 E1 Tryz.zeroValue45 rfl rfl rfl rfl (E7 (A0 rfl) (E8 _) I6) rfl rfl) ?_
    refine Q9 ?_
    refine M9 (by' := 72) 2 rfl rfl rfl rfl E5 Tryz.type45 rfl rfl rfl rfl rfl rfl (A0 rfl) (A0 rfl) rfl (by simp only [A6, B0, B3]; omega) ?_
    intro v28_4
    refine A1 rfl rfl rfl (B6 2 rfl D4 rfl I1 (A0 rfl) rfl) ?_
    refine W4 2 rfl fun one_v28_4 => ?_
    refine L0 1 rfl rfl rfl (A0 rfl) (A0 rfl) (V5 one_v28_4) rfl I1 rfl ?_
    refine A5 (A2 ?_)
    refine A1 rfl rfl rfl (G5 rfl (A0 rfl) B5 (by first | omega | (simp only [A6, B0, B7, C1, B3, szR] at *; omega))) ?_
    refine A4 rfl rfl rfl rfl rfl ?_
    refine A5 ?_
    refine S5 i v (i + 1) (v28_4) ?_ ?_ (Le.trans (K1 [0, 0, 0] rfl) (N0 1 (by exact congrArg (fun z => Own.box b3 30 [AV.int s.Floor, AV.list 2 (s.Cells.map TCell.cs), AV.is v28_4, AV.is v14_3] :: Own.arr v28_4 45 5 z :: _) (c7 (f := THeld.cs) hx)) ⟨rfl, rfl, rfl, rfl, rfl, trivial⟩))
    ·omega
    ·omega
   ·intro h20
    have k20 := of_decide_eq_false h20; try simp only [A6] at k20
    have hge : i = s.Held.length := by omega
    rw [hge, List.take_length]
    refine H4 ?_
    refine A3 (A2 ?_)
    refine A1 rfl rfl rfl (E4 0 rfl (A0 rfl) rfl F1 D3 rfl) ?_
    refine D5 2 rfl rfl rfl (A0 rfl) (A0 rfl) (E8 _) rfl D3 rfl ?_
    refine A5 ?_
    refine C6 ?_
    exact M8 [4, 4, 1, 3] (v, v14_3) (trivial) rfl (by rfl) (Q4 rfl (K3 (ys := _) 2 rfl rfl F1 D3 rfl))
 ·refine V6 rfl rfl rfl (AG2 rfl Tryz.zeroValue30 rfl) (fun a _ => (by first | exact G7 rfl | exact G7 (List.append_assoc _ _ _) | exact K9)) ?_
  intro b3 _
  refine Z9 ?_
  refine V6 rfl rfl rfl (c3 rfl H8 K6) (fun a _ => (by first | exact G7 rfl | exact G7 (List.append_assoc _ _ _) | exact K9)) ?_
  intro v11 _
  refine Z9 ?_
  refine V6 rfl rfl rfl (n0 5 (fun _ => rfl) (y9 (by' := 24) 5 rfl H8 Tryz.type39 rfl rfl rfl rfl rfl rfl (A0 rfl) (AN0 3 rfl (A0 rfl)) rfl (by simp only [C1, A6]; omega))) (fun a _ => (by first | exact G7 rfl | exact G7 (List.append_assoc _ _ _) | exact K9)) ?_
  intro v14_5 hone_v14_5
  have one_v14_5 := hone_v14_5.2
  refine M4 rfl rfl rfl (fun ext => Q2 (places := #[(0, 1), (1, 1), (2, 1), (3, 1)]) rfl D4 Tryz.zeroValue30 (fun w => by kernel_rfl) rfl (E7 (A0 rfl) (K8 _ _) (E7 (A0 rfl) (W1 _ _) (E7 (A0 rfl) (V5 one_v14_5) I6))) rfl) ?_
  refine p4 ?_
  refine D5 4 rfl rfl rfl (A0 rfl) (A0 rfl) (E8 _) rfl D3 rfl ?_
  refine A5 (A3 (A3 (A2 ?_)))
  refine A1 rfl rfl rfl (B6 2 rfl D4 rfl I1 (A0 rfl) rfl) ?_
  refine A1 rfl rfl rfl (B4 1 rfl (A0 rfl) rfl M0 rfl) ?_
  refine A1 rfl rfl rfl (U5 2 rfl E5 (A0 rfl) rfl) ?_
  refine A1 rfl rfl rfl (C4 rfl B5) ?_
  refine A5 (D7 ?_)
  refine f5 45 5 ?_
  refine AWP.le (K1 [5, 0] rfl) ?_
  refine T5 [(2, _), (3, _), (17, _), (18, _)] _ (fun (i : Nat) (v : Value) => i ≤ s.Held.length) (fun (i : Nat) (v : Value) => [.box b3 30 [AV.int s.Floor, AV.list 2 (s.Cells.map TCell.cs), AV.is v, AV.is v14_5], .arr v 45 5 ((s.Held.take i).map THeld.cs)]) (fun (i : Nat) (v : Value) => [(19, AV.int i)]) (fun (i : Nat) (v : Value) => s.Held.length - i) (0) ((Value.slice none 0 0)) ?_ (S7 (by rfl) ⟨rfl, rfl, rfl, rfl, rfl, trivial⟩) ?_
  ·exact Nat.zero_le _
  intro i v hinv
  refine A3 (A2 ?_)
  refine A1 rfl rfl rfl (J8 rfl (A0 rfl) (A0 rfl)) ?_
  refine A5 (A3 ?_)
  refine C8 (A0 rfl) ?_ ?_
  ·intro h20
   have k20 := of_decide_eq_true h20; try simp only [A6] at k20
   have hlt : i < s.Held.length := by omega
   obtain ⟨h, hx⟩ := get_some hlt
   obtain ⟨g1, g2, g3, g4, g5⟩ := Y3 hs2 hx
   have hrow : (s.Held.map THeld.cs)[((i : Nat) : Int).toNat]? = some h.cs := by (rw [Int.toNat_natCast, List.getElem?_map, hx]; rfl)
   refine D1 (A3 (D7 (A3 (A2 ?_))))
   refine A1 rfl rfl rfl (V8 4 rfl E5 E1 (A0 rfl) rfl (A0 rfl) (by omega) (by first | omega | (simp only [A6]; omega))) ?_
   refine A1 rfl rfl rfl (k0 4 rfl (A0 rfl) rfl J3 E1 hrow (by decide)) ?_
   refine F3 rfl rfl rfl rfl Tryz.zeroValue45 rfl ?_
   intro b5
   refine D5 0 rfl rfl rfl (A0 rfl) (A0 rfl) (E8 _) rfl E1 rfl ?_
   refine A5 ?_
   refine d2 5 (by kernel_rfl) (by kernel_rfl) rfl ?_
   refine C2 rfl rfl (B6 2 rfl D4 rfl I1 (A0 rfl) rfl) ?_
   refine C2 rfl rfl (B4 1 rfl (A0 rfl) rfl M0 rfl) ?_
   refine C2 rfl rfl (E4 0 rfl (A0 rfl) rfl J3 E1 rfl) ?_
   refine C2 rfl rfl (D6 rfl Tryz.call106 rfl (t2 _ (by first | assumption | omega)) (A7 (A0 rfl) C0)) ?_
   refine C2 rfl rfl (M3 rfl E5 E1 Tryz.zeroValue45 rfl rfl rfl rfl (E7 (A0 rfl) (E8 _) I6) rfl rfl) ?_
   refine Q9 ?_
   refine M9 (by' := 72) 2 rfl rfl rfl rfl E5 Tryz.type45 rfl rfl rfl rfl rfl rfl (A0 rfl) (A0 rfl) rfl (by simp only [A6, B0, B3]; omega) ?_
   intro v28_6
   refine A1 rfl rfl rfl (B6 2 rfl D4 rfl I1 (A0 rfl) rfl) ?_
   refine W4 2 rfl fun one_v28_6 => ?_
   refine L0 1 rfl rfl rfl (A0 rfl) (A0 rfl) (V5 one_v28_6) rfl I1 rfl ?_
   refine A5 (A2 ?_)
   refine A1 rfl rfl rfl (G5 rfl (A0 rfl) B5 (by first | omega | (simp only [A6, B0, B7, C1, B3, szR] at *; omega))) ?_
   refine A4 rfl rfl rfl rfl rfl ?_
   refine A5 ?_
   refine S5 i v (i + 1) (v28_6) ?_ ?_ (Le.trans (K1 [0, 0, 0] rfl) (N0 1 (by exact congrArg (fun z => Own.box b3 30 [AV.int s.Floor, AV.list 2 (s.Cells.map TCell.cs), AV.is v28_6, AV.is v14_5] :: Own.arr v28_6 45 5 z :: _) (c7 (f := THeld.cs) hx)) ⟨rfl, rfl, rfl, rfl, rfl, trivial⟩))
   ·omega
   ·omega
  ·intro h20
   have k20 := of_decide_eq_false h20; try simp only [A6] at k20
   have hge : i = s.Held.length := by omega
   rw [hge, List.take_length]
   refine H4 ?_
   refine A3 (A2 ?_)
   refine A1 rfl rfl rfl (E4 0 rfl (A0 rfl) rfl F1 D3 rfl) ?_
   refine D5 2 rfl rfl rfl (A0 rfl) (A0 rfl) (E8 _) rfl D3 rfl ?_
   refine A5 ?_
   refine C6 ?_
   exact M8 [4, 4, 1, 3] (v, v14_5) (trivial) rfl (by rfl) (Q4 rfl (K3 (ys := _) 2 rfl rfl F1 D3 rfl))
theorem Ae7 (s : TState) (y : Value × Value) (n : Int) (hlen : s.Held.length ≤ 1048576) : GSpec Tryz.prog 105 [AV.agg (TState.ocs s y), AV.int n] (TState.ow s y) (fun _ : Unit => True) (fun _ => TState.ow s y) (fun _ => AV.tup [AV.agg (heldFO s.Held n).1.cs, AV.bool (heldFO s.Held n).2]) := by
 obtain ⟨he, hhe⟩ : ∃ he, heldFO s.Held n = he := ⟨_, rfl⟩
 rw [hhe]
 refine I2 Tryz.func105 rfl Tryz.ntmps105 rfl ?_
 refine A3 (A2 ?_)
 refine J6 rfl rfl rfl rfl (A0 rfl) ?_
 intro b2
 refine F3 rfl rfl rfl rfl Tryz.zeroValue45 rfl ?_
 intro b4
 refine A1 rfl rfl rfl (B8 rfl F0) ?_
 refine A5 (A3 (A3 (A2 ?_)))
 refine A1 rfl rfl rfl (B6 2 rfl D4 rfl I1 (A0 rfl) rfl) ?_
 refine A1 rfl rfl rfl (B4 1 rfl (A0 rfl) rfl M0 rfl) ?_
 refine A1 rfl rfl rfl (U5 2 rfl E5 (A0 rfl) rfl) ?_
 refine A1 rfl rfl rfl (C4 rfl B5) ?_
 refine A5 (D7 ?_)
 refine J0 [(1, _), (4, _), (9, _), (10, _)] _ (fun (i : Nat) => i ≤ s.Held.length ∧ ∀ j y, j < i → s.Held[j]? = some y → (y.Txn == n) = false) (fun (i : Nat) => []) (fun (i : Nat) => [(11, AV.int i)]) (fun (i : Nat) => s.Held.length - i) (0) ?_ (J1 ⟨rfl, rfl, rfl, rfl, rfl, trivial⟩) ?_
 ·exact ⟨Nat.zero_le _, fun j y hj => by omega⟩
 intro i hinv
 refine A3 (A2 ?_)
 refine A1 rfl rfl rfl (J8 rfl (A0 rfl) (A0 rfl)) ?_
 refine A5 (A3 ?_)
 refine C8 (A0 rfl) ?_ ?_
 ·intro h12
  have k12 := of_decide_eq_true h12; try simp only [A6] at k12
  have hlt : i < s.Held.length := by omega
  obtain ⟨x, hx⟩ := get_some hlt
  have hrow : (s.Held.map THeld.cs)[((i : Nat) : Int).toNat]? = some x.cs := by (rw [Int.toNat_natCast, List.getElem?_map, hx]; rfl)
  refine D1 (A3 (D7 (A3 (A2 ?_))))
  refine A1 rfl rfl rfl (V8 2 rfl E5 E1 (A0 rfl) rfl (A0 rfl) (by omega) (by first | omega | (simp only [A6]; omega))) ?_
  refine A1 rfl rfl rfl (k0 2 rfl (A0 rfl) rfl J3 E1 hrow (by decide)) ?_
  refine F3 rfl rfl rfl rfl Tryz.zeroValue45 rfl ?_
  intro b7
  refine D5 0 rfl rfl rfl (A0 rfl) (A0 rfl) (E8 _) rfl E1 rfl ?_
  refine A5 (A3 (A2 ?_))
  refine A1 rfl rfl rfl (B6 0 rfl E9 rfl B9 (A0 rfl) rfl) ?_
  refine A1 rfl rfl rfl (B4 0 rfl (A0 rfl) rfl C7 rfl) ?_
  refine A4 rfl rfl rfl rfl rfl ?_
  refine A1 rfl rfl rfl (M5 rfl (A0 rfl) (A0 rfl)) ?_
  refine A5 ?_
  refine C8 (A0 rfl) ?_ ?_
  ·intro h18
   have k18 := N6 h18; try simp only [A6] at k18
   have he9 : he = (x, true) := by (rw [← hhe]; unfold heldFO findH; rw [r7 hx h18 hinv.2])
   rw [he9]
   refine A3 (A2 ?_)
   refine A1 rfl rfl rfl (E4 0 rfl (A0 rfl) rfl J3 E1 rfl) ?_
   refine D5 1 rfl rfl rfl (A0 rfl) (A0 rfl) (E8 _) rfl E1 rfl ?_
   refine A1 rfl rfl rfl (B8 rfl F0) ?_
   refine A5 ?_
   refine C6 ?_
   exact M8 [3, 3] () (trivial) rfl (by rfl) (Y0 rfl (by decide) (E6 (K3 (ys := _) 1 rfl rfl J3 E1 rfl) (E6 (C3 rfl (by rfl)) I8)))
  ·intro h18
   have k18 := N5 h18; try simp only [A6] at k18
   refine D1 (A2 ?_)
   refine A1 rfl rfl rfl (G5 rfl (A0 rfl) B5 (by first | omega | (simp only [A6, B0, B7, C1, B3, szR] at *; omega))) ?_
   refine A4 rfl rfl rfl rfl rfl ?_
   refine A5 ?_
   refine L2 i (i + 1) ?_ ?_ (T3 1 ⟨rfl, rfl, rfl, rfl, rfl, trivial⟩)
   ·exact ⟨by omega, fun j y hj hy => if hji : j < i then hinv.2 j y hji hy else (by have e : j = i := (by omega); subst e; rw [hx] at hy; injection hy with hy; subst hy; exact h18)⟩
   ·omega
 ·intro h12
  have k12 := of_decide_eq_false h12; try simp only [A6] at k12
  have hge : s.Held.length ≤ i := by omega
  have he9 : he = (zHeld, false) := by (rw [← hhe]; unfold heldFO findH; rw [AN2 fun j y hy => hinv.2 j y (Nat.lt_of_lt_of_le (List.getElem?_eq_some_iff.1 hy).1 hge) hy])
  rw [he9]
  refine H4 ?_
  refine A3 (A2 ?_)
  refine A1 rfl rfl rfl (Q2 (places := #[(0, 1), (1, 1), (2, 1), (3, 1), (4, 1)]) rfl E9 Tryz.zeroValue45 (fun w => by kernel_rfl) rfl I6 rfl) ?_
  refine D5 0 rfl rfl rfl (A0 rfl) (A0 rfl) (E8 _) rfl E1 rfl ?_
  refine A1 rfl rfl rfl (B8 rfl F0) ?_
  refine A5 ?_
  refine C6 ?_
  refine AH5 0 3 1 rfl rfl (R8 2 rfl rfl (R8 3 rfl rfl S8)) ?_
  refine AH5 0 4 3 rfl rfl (R8 2 rfl rfl (R8 3 rfl rfl S8)) ?_
  exact M8 [2, 2] () (trivial) rfl (by rfl) (Y0 rfl (by decide) (E6 (K3 (ys := _) 0 rfl rfl J3 E1 rfl) (E6 (C3 rfl (by rfl)) I8)))
theorem Ak3 (s : TState) (y : Value × Value) (r : TRec) (g : SO s) (hs : s.size ≤ 300000) (hrs : r.size ≤ 300000) : GSpec Tryz.prog 103 [AV.agg (TState.ocs s y), AV.agg r.cs] (TState.ow s y) (fun _ : Value × Value => True) (fun x => TState.ow s y ++ TState.ow (applyS s r).1 x) (fun x => AV.tup [AV.agg (TState.ocs (applyS s r).1 x), AV.bool (applyS s r).2]) := by
 obtain ⟨hs1, hs2, hs3, hs4, hs5⟩ := T6 hs
 have hgc := g.cells
 have hgh := g.hsort
 have hgt := g.tsort
 have hr2 : r.size = sizeL (fun x : Str => x.length) r.Reads + sizeL TWrite.size r.Writes := rfl
 have hr3 := P5 (f := fun x : Str => x.length) (l := r.Reads)
 have hr4 := P5 (f := TWrite.size) (l := r.Writes)
 have hho := AH7 s.Held r.Txn
 have hto := An4 s.Told r.Txn
 obtain ⟨h, hh⟩ : ∃ h, (heldFO s.Held r.Txn).1 = h := ⟨_, rfl⟩
 have hf1 : hasH s.Held r.Txn = true → findH s.Held r.Txn = some h := fun e => by
  rw [← hho] at e
  unfold heldFO at hh e
  cases hf : findH s.Held r.Txn with
  | none => rw [hf] at e; cases e
  | some x => rw [hf] at hh; exact congrArg some hh
 have hf0 : hasH s.Held r.Txn = false → findH s.Held r.Txn = none := fun e => AP3.2 e
 have hhs : hasH s.Held r.Txn = true → h.size ≤ 300000 ∧ 1 ≤ h.Time := fun e => by
  obtain ⟨h1, h2⟩ := AP2 (hf1 e)
  obtain ⟨i, hi⟩ := List.getElem?_of_mem h1
  exact ⟨(Y3 hs2 hi).1, g.times h h1⟩
 have hlen := AK7 s.Held r.Txn
 have hll : (lessH s.Held r.Txn).length ≤ s.Held.length := List.length_filter_le _ _
 refine I2 Tryz.func103 rfl Tryz.ntmps103 rfl ?_
 refine A3 (A2 ?_)
 refine J6 rfl rfl rfl rfl (A0 rfl) ?_
 intro b2
 refine J6 rfl rfl rfl rfl (A0 rfl) ?_
 intro b3
 refine F3 rfl rfl rfl rfl Tryz.zeroValue30 rfl ?_
 intro b4
 refine A1 rfl rfl rfl (B8 rfl F0) ?_
 refine A5 (A3 (A2 ?_))
 refine A1 rfl rfl rfl (E4 2 rfl (A0 rfl) rfl F1 D3 rfl) ?_
 refine G0 [3, 3] rfl rfl rfl rfl Tryz.call107 rfl (AX6 s y (by omega)) (A7 (A0 rfl) C0) rfl ?_
 intro x14 ok14
 refine F3 rfl rfl rfl rfl Tryz.zeroValue30 rfl ?_
 intro b6
 refine D5 0 rfl rfl rfl (A0 rfl) (A0 rfl) (E8 _) rfl D3 rfl ?_
 refine A5 (A3 ?_)
 refine K7 (by first | (simp only [TState.ow, TState.ocs, pick, O9, O4, N9, N7, O0, List.nil_append, P0, P1, List.append_nil, N8, List.take_zero, O1, List.drop_zero]; exact rfl) | exact rfl) ?_
 refine A2 ?_
 refine A1 rfl rfl rfl (E4 7 rfl (A0 rfl) rfl F1 D3 rfl) ?_
 refine A1 rfl rfl rfl (B6 1 rfl C5 rfl B9 (A0 rfl) rfl) ?_
 refine A1 rfl rfl rfl (B4 6 rfl (A0 rfl) rfl C7 rfl) ?_
 refine G0 [1, 1] rfl rfl rfl rfl Tryz.call105 rfl (Ae7 s y r.Txn (by omega)) (A7 (A0 rfl) (A7 (A0 rfl) C0)) rfl ?_
 intro x19 ok19
 refine A4 rfl rfl rfl rfl rfl ?_
 refine A1 rfl rfl rfl (D0 rfl (A0 rfl) rfl) ?_
 refine A1 rfl rfl rfl (D0 rfl (A0 rfl) rfl) ?_
 refine F3 rfl rfl rfl rfl Tryz.zeroValue45 rfl ?_
 intro b7
 refine D5 0 rfl rfl rfl (A0 rfl) (A0 rfl) (E8 _) rfl E1 rfl ?_
 refine B2 rfl rfl rfl rfl rfl ?_
 refine A5 (A3 ?_)
 refine K7 (by first | (simp only [TState.ow, TState.ocs, pick, O9, O4, N9, N7, O0, List.nil_append, P0, P1, List.append_nil, N8, List.take_zero, O1, List.drop_zero]; exact rfl) | exact rfl) ?_
 refine A2 ?_
 refine A1 rfl rfl rfl (E4 8 rfl (A0 rfl) rfl F1 D3 rfl) ?_
 refine A1 rfl rfl rfl (B6 1 rfl C5 rfl B9 (A0 rfl) rfl) ?_
 refine A1 rfl rfl rfl (B4 7 rfl (A0 rfl) rfl C7 rfl) ?_
 refine A1 rfl rfl rfl (j8 rfl Tryz.call104 rfl (Ab5 s r.Txn (by omega)) (j3 (D2 (W3 (D2 (F4 _ _) (D2 (F7 _) (D2 (F4 _ _) F6)))) (D2 (F7 _) F6))) (S1 (AF1 (A0 rfl) (i3 (H2 L8 (H2 L8 (H2 (N2 (G6 (i := 1) rfl) I9) (H2 (N2 (G6 (i := 2) rfl) I9) T9)))))) (S1 (evb (A0 rfl)) Z6))) ?_
 refine A4 rfl rfl rfl rfl rfl ?_
 refine A1 rfl rfl rfl (D0 rfl (A0 rfl) rfl) ?_
 refine A1 rfl rfl rfl (D0 rfl (A0 rfl) rfl) ?_
 refine F3 rfl rfl rfl rfl Tryz.zeroValue39 rfl ?_
 intro b9
 refine D5 0 rfl rfl rfl (A0 rfl) (A0 rfl) (E8 _) rfl K6 rfl ?_
 refine B2 rfl rfl rfl rfl rfl ?_
 refine A5 (A3 (D7 (A3 ?_)))
 rw [hh]
 rw [hho, hto]
 refine K7 (by first | (simp only [TState.ow, TState.ocs, pick, O9, O4, N9, N7, O0, List.nil_append, P0, P1, List.append_nil, N8, List.take_zero, O1, List.drop_zero]; exact rfl) | exact rfl) ?_
 refine A2 ?_
 refine A1 rfl rfl rfl (B6 0 rfl C5 rfl B9 (A0 rfl) rfl) ?_
 refine A1 rfl rfl rfl (B4 8 rfl (A0 rfl) rfl C7 rfl) ?_
 refine A1 rfl rfl rfl (M5 rfl (A0 rfl) B5) ?_
 refine B2 rfl rfl rfl rfl rfl ?_
 refine A5 ?_
 refine C8 (A0 rfl) ?_ ?_
 ·intro h29
  have k29 := N6 h29; try simp only [A6] at k29
  have hk : r.Kind = 4 := by simpa using h29
  have he : applyS s r = (⟨r.Time, s.Cells, s.Held, s.Told⟩, decide (s.Floor < r.Time)) := by (unfold applyS; rw [if_pos hk])
  rw [he]
  refine A3 ?_
  refine K7 (by first | (simp only [TState.ow, TState.ocs, pick, O9, O4, N9, N7, O0, List.nil_append, P0, P1, List.append_nil, N8, List.take_zero, O1, List.drop_zero]; exact rfl) | exact rfl) ?_
  refine A2 ?_
  refine A1 rfl rfl rfl (B6 2 rfl C5 rfl B9 (A0 rfl) rfl) ?_
  refine A1 rfl rfl rfl (B4 8 rfl (A0 rfl) rfl C7 rfl) ?_
  refine A1 rfl rfl rfl (B6 0 rfl D4 rfl B9 (A0 rfl) rfl) ?_
  refine L0 4 rfl rfl rfl (A0 rfl) (A0 rfl) (K8 _ _) rfl B9 rfl ?_
  refine A5 (A3 ?_)
  refine K7 (by first | (simp only [TState.ow, TState.ocs, pick, O9, O4, N9, N7, O0, List.nil_append, P0, P1, List.append_nil, N8, List.take_zero, O1, List.drop_zero]; exact rfl) | exact rfl) ?_
  refine AWP.le (K1 [4, 7, 7] rfl) ?_
  refine d4 _ 7 (.pure 0 (.pure 1 (.pure 2 (.pure 3 (.pure 4 (.pure 5 (.e1 6 .nil))))))) (by kernel_rfl) (by kernel_rfl) rfl (c0 3) ?_
  refine M4 rfl rfl rfl (fun ext => E4 0 rfl (A0 rfl) rfl F1 D3 rfl) ?_
  refine M4 rfl rfl rfl (fun ext => B6 2 rfl C5 rfl B9 (A0 rfl) rfl) ?_
  refine M4 rfl rfl rfl (fun ext => B4 1 rfl (A0 rfl) rfl C7 rfl) ?_
  refine M4 rfl rfl rfl (fun ext => B6 0 rfl D4 rfl B9 (A0 rfl) rfl) ?_
  refine M4 rfl rfl rfl (fun ext => B4 2 rfl (A0 rfl) rfl C7 rfl) ?_
  refine M4 rfl rfl rfl (fun ext => O5 rfl (A0 rfl) (A0 rfl)) ?_
  refine Z9 ?_
  refine eff_s0 rfl rfl rfl (AJ6 9 rfl rfl (A0 rfl) (A0 rfl) (E8 _) rfl D3 rfl) (fun a _ => (by first | exact G7 rfl | exact G7 (List.append_assoc _ _ _) | exact K9)) ?_
  intro _ _
  refine p4 ?_
  refine B2 rfl rfl rfl rfl rfl ?_
  refine A5 ?_
  refine C6 ?_
  exact M8 [5, 5, 5, 5] (x14.1, x14.2) (trivial) rfl (by rfl) (Y0 rfl (by decide) (E6 (K3 (ys := _) 9 rfl rfl F1 D3 rfl) (E6 (C3 rfl (by rfl)) I8)))
 ·intro h29
  have k29 := N5 h29; try simp only [A6] at k29
  have hk4 : r.Kind ≠ 4 := by simpa using h29
  refine A3 (A2 ?_)
  refine A4 rfl rfl rfl rfl rfl ?_
  refine B2 rfl rfl rfl rfl rfl ?_
  refine A5 ?_
  refine C8 (A0 rfl) ?_ ?_
  ·intro h42
   have he : applyS s r = (s, false) := by (unfold applyS; rw [if_neg hk4, if_pos h42])
   rw [he]
   refine A3 (A2 ?_)
   refine A1 rfl rfl rfl (E4 4 rfl (A0 rfl) rfl F1 D3 rfl) ?_
   refine D5 7 rfl rfl rfl (A0 rfl) (A0 rfl) (E8 _) rfl D3 rfl ?_
   refine A1 rfl rfl rfl (B8 rfl F0) ?_
   refine A5 ?_
   refine C6 ?_
   exact M8 [2, 2, 3, 3] (x14.1, x14.2) (trivial) rfl (by rfl) (Y0 rfl (by decide) (E6 (K3 (ys := _) 7 rfl rfl F1 D3 rfl) (E6 (C3 rfl (by rfl)) I8)))
  ·intro h42
   have hT : hasT s.Told r.Txn = false := h42
   have hnT : ¬ hasT s.Told r.Txn = true := by (rw [hT]; decide)
   refine A3 (A2 ?_)
   refine A1 rfl rfl rfl (B6 0 rfl C5 rfl B9 (A0 rfl) rfl) ?_
   refine A1 rfl rfl rfl (B4 8 rfl (A0 rfl) rfl C7 rfl) ?_
   refine A1 rfl rfl rfl (M5 rfl (A0 rfl) B5) ?_
   refine B2 rfl rfl rfl rfl rfl ?_
   refine A5 ?_
   refine C8 (A0 rfl) ?_ ?_
   ·intro h45
    have k45 := N6 h45; try simp only [A6] at k45
    have hk1 : r.Kind = 1 := by simpa using h45
    have he : applyS s r = (⟨r.Time, s.Cells, insH (hOf r) s.Held, s.Told⟩, (!hasH s.Held r.Txn && decide (s.Floor < r.Time)) && fits s r.Reads r.Writes) := by (unfold applyS; rw [if_neg hk4, if_neg hnT, if_pos hk1])
    rw [he]
    refine A3 ?_
    refine AWP.le (n3 [5] 4 (.box b6 30 [AV.int s.Floor, AV.list 2 (s.Cells.map TCell.cs), AV.list 5 (s.Held.map THeld.cs), AV.is x14.2]) rfl rfl ⟨rfl, rfl, (H2 L8 (H2 L8 (H2 (N2 (G6 (i := 0) rfl) I9) (H2 L8 T9))))⟩ (R8 2 rfl rfl (R8 3 rfl rfl S8))) ?_
    refine K7 (by first | (simp only [TState.ow, TState.ocs, pick, O9, O4, N9, N7, O0, List.nil_append, P0, P1, List.append_nil, N8, List.take_zero, O1, List.drop_zero]; exact rfl) | exact rfl) ?_
    refine AWP.le (K1 [4, 6] rfl) ?_
    refine W5 _ [(0, false), (1, false), (2, false), (3, false), (4, false), (5, false), (6, false), (7, false), (8, false), (9, false), (10, false), (12, false), (13, false), (11, true), (14, true), (15, false), (16, true)] (by kernel_rfl) (by kernel_rfl) rfl (c0 2) ?_
    refine I7 rfl rfl rfl (fun ext => B6 2 rfl D4 rfl I1 (A0 rfl) rfl) ?_
    refine I7 rfl rfl rfl (fun ext => B4 0 rfl (A0 rfl) rfl M0 rfl) ?_
    refine I7 rfl rfl rfl (fun ext => B6 1 rfl C5 rfl B9 (A0 rfl) rfl) ?_
    refine I7 rfl rfl rfl (fun ext => B4 1 rfl (A0 rfl) rfl C7 rfl) ?_
    refine I7 rfl rfl rfl (fun ext => B6 2 rfl C5 rfl B9 (A0 rfl) rfl) ?_
    refine I7 rfl rfl rfl (fun ext => B4 1 rfl (A0 rfl) rfl C7 rfl) ?_
    refine I7 rfl rfl rfl (fun ext => B6 3 rfl C5 rfl B9 (A0 rfl) rfl) ?_
    refine I7 rfl rfl rfl (fun ext => B4 1 rfl (A0 rfl) rfl C7 rfl) ?_
    refine I7 rfl rfl rfl (fun ext => B6 4 rfl C5 rfl L9 (A0 rfl) rfl) ?_
    refine I7 rfl rfl rfl (fun ext => B4 1 rfl (A0 rfl) rfl P6 rfl) ?_
    refine I7 rfl rfl rfl (fun ext => D6 rfl Tryz.call169 rfl (Ab7 _ (by omega)) (A7 (A0 rfl) C0)) ?_
    refine I7 rfl rfl rfl (fun ext => B6 5 rfl C5 rfl J7 (A0 rfl) rfl) ?_
    refine I7 rfl rfl rfl (fun ext => B4 1 rfl (A0 rfl) rfl L3 rfl) ?_
    refine V9 rfl rfl rfl (c3 rfl G4 H9) (fun a _ => (by first | exact G7 rfl | exact G7 (List.append_assoc _ _ _) | exact K9)) ?_
    intro v60 _
    refine V9 rfl rfl rfl (An2 [9] (fun _ => rfl) (fun _ => N2 (G6 (i := 0) rfl) I9) (fun _ => (R8 4 rfl rfl (R8 5 rfl rfl S8))) (Q6 (by' := 40) 9 rfl G4 Tryz.type77 rfl rfl rfl rfl rfl rfl (A0 rfl) (A0 rfl) rfl (by simp only [C1, A6]; omega))) (fun a _ => (by first | exact G7 rfl | exact G7 (List.append_assoc _ _ _) | exact K9)) ?_
    intro v63_1 _
    refine I7 rfl rfl rfl (fun ext => Q2 (places := #[(0, 1), (1, 1), (2, 1), (3, 1), (4, 1)]) rfl E9 Tryz.zeroValue45 (fun w => by kernel_rfl) rfl (E7 (A0 rfl) (K8 _ _) (E7 (A0 rfl) (K8 _ _) (E7 (A0 rfl) (K8 _ _) (E7 (A0 rfl) (W1 _ _) (E7 (A0 rfl) (W1 _ _) I6))))) rfl) ?_
    refine V9 rfl rfl rfl (AC1 [] rfl Tryz.call204 rfl (Ae4 s.Held (hOf r) hgh (by omega)) (A7 (A0 rfl) (A7 (A0 rfl) C0)) rfl) (fun a _ => (by first | exact G7 rfl | exact G7 (List.append_assoc _ _ _) | exact K9)) ?_
    intro x65 ok65
    refine s7 ?_
    refine A1 rfl rfl rfl (B6 2 rfl D4 rfl I1 (A0 rfl) rfl) ?_
    refine W4 9 rfl fun one_x65 => ?_
    refine L0 0 rfl rfl rfl (A0 rfl) (A0 rfl) (V5 one_x65) rfl I1 rfl ?_
    refine A5 (A3 ?_)
    refine K7 (by first | (simp only [TState.ow, TState.ocs, pick, O9, O4, N9, N7, O0, List.nil_append, P0, P1, List.append_nil, N8, List.take_zero, O1, List.drop_zero]; exact rfl) | exact rfl) ?_
    refine A2 ?_
    refine A1 rfl rfl rfl (B6 2 rfl C5 rfl B9 (A0 rfl) rfl) ?_
    refine A1 rfl rfl rfl (B4 1 rfl (A0 rfl) rfl C7 rfl) ?_
    refine A1 rfl rfl rfl (B6 0 rfl D4 rfl B9 (A0 rfl) rfl) ?_
    refine L0 0 rfl rfl rfl (A0 rfl) (A0 rfl) (K8 _ _) rfl B9 rfl ?_
    refine A5 (A3 ?_)
    refine K7 (by first | (simp only [TState.ow, TState.ocs, pick, O9, O4, N9, N7, O0, List.nil_append, P0, P1, List.append_nil, N8, List.take_zero, O1, List.drop_zero]; exact rfl) | exact rfl) ?_
    refine AWP.le (K1 [0, 0, 6, 2, 2] rfl) ?_
    refine d4 _ 19 (.pure 0 (.pure 1 (.pure 2 (.pure 3 (.pure 4 (.pure 5 (.pure 6 (.pure 7 (.pure 8 (.pure 9 (.pure 10 (.pure 11 (.pure 12 (.pure 13 (.pure 14 (.pure 15 (.pure 16 (.pure 17 (.e1 18 .nil))))))))))))))))))) (by kernel_rfl) (by kernel_rfl) rfl (c0 5) ?_
    refine M4 rfl rfl rfl (fun ext => E4 0 rfl (A0 rfl) rfl F1 D3 rfl) ?_
    refine M4 rfl rfl rfl (fun ext => C4 rfl (A0 rfl)) ?_
    refine M4 rfl rfl rfl (fun ext => I4 rfl (A0 rfl)) ?_
    refine M4 rfl rfl rfl (fun ext => C4 rfl (A0 rfl)) ?_
    refine f0 rfl rfl (B1 rfl rfl rfl) (fun hc ext => B6 2 rfl C5 rfl B9 (A0 rfl) rfl) ?_
    refine f0 rfl rfl (B1 rfl rfl rfl) (fun hc ext => B4 1 rfl (A8 rfl hc) rfl C7 rfl) ?_
    refine f0 rfl rfl (B1 rfl rfl rfl) (fun hc ext => B6 0 rfl D4 rfl B9 (A0 rfl) rfl) ?_
    refine f0 rfl rfl (B1 rfl rfl rfl) (fun hc ext => B4 2 rfl (A8 rfl hc) rfl C7 rfl) ?_
    refine f0 rfl rfl (B1 rfl rfl rfl) (fun hc ext => O5 rfl (A8 rfl hc) (A8 rfl hc)) ?_
    refine M4 rfl rfl rfl (fun ext => G1 rfl (A0 rfl) (E3 rfl)) ?_
    refine M4 rfl rfl rfl (fun ext => C4 rfl (A0 rfl)) ?_
    refine f0 rfl rfl (B1 rfl rfl rfl) (fun hc ext => E4 2 rfl (A0 rfl) rfl F1 D3 rfl) ?_
    refine f0 rfl rfl (B1 rfl rfl rfl) (fun hc ext => B6 4 rfl C5 rfl L9 (A0 rfl) rfl) ?_
    refine f0 rfl rfl (B1 rfl rfl rfl) (fun hc ext => B4 1 rfl (A8 rfl hc) rfl P6 rfl) ?_
    refine f0 rfl rfl (B1 rfl rfl rfl) (fun hc ext => B6 5 rfl C5 rfl J7 (A0 rfl) rfl) ?_
    refine f0 rfl rfl (B1 rfl rfl rfl) (fun hc ext => B4 1 rfl (A8 rfl hc) rfl L3 rfl) ?_
    refine f0 rfl rfl (B1 rfl rfl rfl) (fun hc ext => j8 rfl Tryz.call126 rfl (Ak0 s r.Reads r.Writes (by omega) (by omega)) (F7 _) (S1 (AF1 (A8 rfl hc) (i3 (H2 L8 (H2 L8 (H2 (N2 (G6 (i := 3) rfl) I9) (H2 (N2 (G6 (i := 4) rfl) I9) T9)))))) (S1 (evb (A8 rfl hc)) (S1 (evb (A8 rfl hc)) Z6)))) ?_
    refine M4 rfl rfl rfl (fun ext => G1 rfl (A0 rfl) (E3 rfl)) ?_
    refine Z9 ?_
    refine eff_s0 rfl rfl rfl (AJ6 8 rfl rfl (A0 rfl) (A0 rfl) (E8 _) rfl D3 rfl) (fun a _ => (by first | exact G7 rfl | exact G7 (List.append_assoc _ _ _) | exact K9)) ?_
    intro _ _
    refine p4 ?_
    refine B2 rfl rfl rfl rfl rfl ?_
    refine A5 ?_
    refine C6 ?_
    exact M8 [3, 3, 7, 5] (x65, x14.2) (trivial) rfl (by rfl) (Y0 rfl (by decide) (E6 (K3 (ys := _) 8 rfl rfl F1 D3 rfl) (E6 (C3 rfl (by rfl)) I8)))
   ·intro h45
    have k45 := N5 h45; try simp only [A6] at k45
    have hk1 : r.Kind ≠ 1 := by simpa using h45
    have hap : applyS s r = (if r.Yes = true then (match findH s.Held r.Txn with | none => (s, false) | some h => if r.Time < h.Time then (s, false) else if (putP s.Cells h.Writes r.Time).2 = true then (doneS s r (if s.Floor < r.Time then r.Time else s.Floor) (putP s.Cells h.Writes r.Time).1, true) else (s, false)) else (doneS s r s.Floor s.Cells, true)) := by (unfold applyS; rw [if_neg hk4, if_neg hnT, if_neg hk1]; rfl)
    refine A3 (A2 ?_)
    refine A1 rfl rfl rfl (B6 6 rfl C5 rfl K5 (A0 rfl) rfl) ?_
    refine A1 rfl rfl rfl (B4 8 rfl (A0 rfl) rfl M6 rfl) ?_
    refine B2 rfl rfl rfl rfl rfl ?_
    refine A5 ?_
    refine C8 (A0 rfl) ?_ ?_
    ·intro h88
     refine A3 (A3 (A2 ?_))
     refine A4 rfl rfl rfl rfl rfl ?_
     refine A1 rfl rfl rfl (I4 rfl (A0 rfl)) ?_
     refine A4 rfl rfl rfl rfl rfl ?_
     refine A9 rfl rfl (C9 rfl rfl rfl) (fun hc => B6 1 rfl E9 rfl B9 (A0 rfl) rfl) ?_
     refine A9 rfl rfl (C9 rfl rfl rfl) (fun hc => B4 1 rfl (A8 rfl hc) rfl C7 rfl) ?_
     refine A9 rfl rfl (C9 rfl rfl rfl) (fun hc => B6 2 rfl C5 rfl B9 (A0 rfl) rfl) ?_
     refine A9 rfl rfl (C9 rfl rfl rfl) (fun hc => B4 8 rfl (A8 rfl hc) rfl C7 rfl) ?_
     refine A9 rfl rfl (C9 rfl rfl rfl) (fun hc => O5 rfl (A8 rfl hc) (A8 rfl hc)) ?_
     refine A1 rfl rfl rfl (N4 rfl (A0 rfl) (E3 rfl)) ?_
     refine A5 ?_
     refine C8 (A0 rfl) ?_ ?_
     ·intro h99
      have he : applyS s r = (s, false) := by (rw [hap, if_pos h88]; cases e : hasH s.Held r.Txn with | false => (rw [hf0 e]) | true => (rw [hf1 e]; dsimp only; rw [if_pos (by rw [e] at h99; simpa using h99)]))
      rw [he]
      refine A3 ?_
      refine K7 (by first | (simp only [TState.ow, TState.ocs, pick, O9, O4, N9, N7, O0, List.nil_append, P0, P1, List.append_nil, N8, List.take_zero, O1, List.drop_zero]; exact rfl) | exact rfl) ?_
      refine A2 ?_
      refine A1 rfl rfl rfl (E4 4 rfl (A0 rfl) rfl F1 D3 rfl) ?_
      refine D5 7 rfl rfl rfl (A0 rfl) (A0 rfl) (E8 _) rfl D3 rfl ?_
      refine A1 rfl rfl rfl (B8 rfl F0) ?_
      refine A5 ?_
      refine C6 ?_
      exact M8 [2, 2, 3, 3] (x14.1, x14.2) (trivial) rfl (by rfl) (Y0 rfl (by decide) (E6 (K3 (ys := _) 7 rfl rfl F1 D3 rfl) (E6 (C3 rfl (by rfl)) I8)))
     ·intro h99
      simp only [Bool.or_eq_false_iff, Bool.not_eq_false', decide_eq_false_iff_not] at h99
      obtain ⟨hhas, hnlt⟩ := h99
      obtain ⟨hz1, hz2⟩ := hhs hhas
      have hz3 : h.size = sizeL (fun x => x.length) h.Reads + sizeL TWrite.size h.Writes := rfl
      refine D1 (A3 ?_)
      refine K7 (by first | (simp only [TState.ow, TState.ocs, pick, O9, O4, N9, N7, O0, List.nil_append, P0, P1, List.append_nil, N8, List.take_zero, O1, List.drop_zero]; exact rfl) | exact rfl) ?_
      refine A2 ?_
      refine A1 rfl rfl rfl (B6 1 rfl D4 rfl P8 (A0 rfl) rfl) ?_
      refine A1 rfl rfl rfl (B4 9 rfl (A0 rfl) rfl Q8 rfl) ?_
      refine A1 rfl rfl rfl (B6 4 rfl E9 rfl J7 (A0 rfl) rfl) ?_
      refine A1 rfl rfl rfl (B4 1 rfl (A0 rfl) rfl L3 rfl) ?_
      refine A1 rfl rfl rfl (B6 2 rfl C5 rfl B9 (A0 rfl) rfl) ?_
      refine A1 rfl rfl rfl (B4 8 rfl (A0 rfl) rfl C7 rfl) ?_
      refine A1 rfl rfl rfl (D6 rfl Tryz.call205 rfl (Ae5 s.Cells h.Writes r.Time hgc (by omega) (by omega) (by omega)) (A7 (A0 rfl) (A7 (A0 rfl) (A7 (A0 rfl) C0)))) ?_
      refine A4 rfl rfl rfl rfl rfl ?_
      refine A1 rfl rfl rfl (D0 rfl (A0 rfl) rfl) ?_
      refine A1 rfl rfl rfl (D0 rfl (A0 rfl) rfl) ?_
      refine B2 rfl rfl rfl rfl rfl ?_
      refine B2 rfl rfl rfl rfl rfl ?_
      refine A5 (A3 (A3 (A2 ?_)))
      refine A4 rfl rfl rfl rfl rfl ?_
      refine A1 rfl rfl rfl (I4 rfl (A0 rfl)) ?_
      refine A5 ?_
      refine C8 (A0 rfl) ?_ ?_
      ·intro h112
       have he : applyS s r = (s, false) := by (rw [hap, if_pos h88, hf1 hhas]; dsimp only; rw [if_neg (by omega), if_neg (by simpa using h112)])
       rw [he]
       refine A3 (A2 ?_)
       refine A1 rfl rfl rfl (E4 4 rfl (A0 rfl) rfl F1 D3 rfl) ?_
       refine D5 7 rfl rfl rfl (A0 rfl) (A0 rfl) (E8 _) rfl D3 rfl ?_
       refine A1 rfl rfl rfl (B8 rfl F0) ?_
       refine A5 ?_
       refine C6 ?_
       exact M8 [2, 2, 3, 3] (x14.1, x14.2) (trivial) rfl (by rfl) (Y0 rfl (by decide) (E6 (K3 (ys := _) 7 rfl rfl F1 D3 rfl) (E6 (C3 rfl (by rfl)) I8)))
      ·intro h112
       have he : applyS s r = (doneS s r (if s.Floor < r.Time then r.Time else s.Floor) (putP s.Cells h.Writes r.Time).1, true) := by (rw [hap, if_pos h88, hf1 hhas]; dsimp only; rw [if_neg (by omega), if_pos (by simpa using h112)])
       rw [he]
       unfold doneS
       refine D1 (A3 ?_)
       refine K7 (by first | (simp only [TState.ow, TState.ocs, pick, O9, O4, N9, N7, O0, List.nil_append, P0, P1, List.append_nil, N8, List.take_zero, O1, List.drop_zero]; exact rfl) | exact rfl) ?_
       refine A2 ?_
       refine A4 rfl rfl rfl rfl rfl ?_
       refine A1 rfl rfl rfl (B6 1 rfl D4 rfl P8 (A0 rfl) rfl) ?_
       refine L0 4 rfl rfl rfl (A0 rfl) (A0 rfl) (W1 _ _) rfl P8 rfl ?_
       refine A5 ?_
       refine K7 (by first | (simp only [TState.ow, TState.ocs, pick, O9, O4, N9, N7, O0, List.nil_append, P0, P1, List.append_nil, N8, List.take_zero, O1, List.drop_zero]; exact rfl) | exact rfl) ?_
       refine A2 ?_
       refine A1 rfl rfl rfl (B6 0 rfl D4 rfl B9 (A0 rfl) rfl) ?_
       refine A1 rfl rfl rfl (B4 9 rfl (A0 rfl) rfl C7 rfl) ?_
       refine A1 rfl rfl rfl (B6 2 rfl C5 rfl B9 (A0 rfl) rfl) ?_
       refine A1 rfl rfl rfl (B4 8 rfl (A0 rfl) rfl C7 rfl) ?_
       refine A1 rfl rfl rfl (D6 rfl Tryz.call130 rfl (Ab8 _ _) (A7 (A0 rfl) (A7 (A0 rfl) C0))) ?_
       refine A1 rfl rfl rfl (B6 0 rfl D4 rfl B9 (A0 rfl) rfl) ?_
       refine L0 4 rfl rfl rfl (A0 rfl) (A0 rfl) (K8 _ _) rfl B9 rfl ?_
       refine A5 (A3 ?_)
       refine AWP.le (n3 [5, 5] 4 (.box b6 30 [_, _, AV.list 5 (s.Held.map THeld.cs), AV.list 3 (s.Told.map TTold.cs)]) rfl rfl ⟨rfl, rfl, (H2 L8 (H2 L8 (H2 (N2 (G6 (i := 0) rfl) I9) (H2 (N2 (G6 (i := 1) rfl) I9) T9))))⟩ (R8 2 rfl rfl (R8 3 rfl rfl S8))) ?_
       refine K7 (by first | (simp only [TState.ow, TState.ocs, pick, O9, O4, N9, N7, O0, List.nil_append, P0, P1, List.append_nil, N8, List.take_zero, O1, List.drop_zero]; exact rfl) | exact rfl) ?_
       refine A2 ?_
       refine A1 rfl rfl rfl (B6 2 rfl D4 rfl I1 (A0 rfl) rfl) ?_
       refine A1 rfl rfl rfl (B4 4 rfl (A0 rfl) rfl M0 rfl) ?_
       refine A1 rfl rfl rfl (B6 1 rfl C5 rfl B9 (A0 rfl) rfl) ?_
       refine A1 rfl rfl rfl (B4 6 rfl (A0 rfl) rfl C7 rfl) ?_
       refine G0 [] rfl rfl rfl rfl Tryz.call206 rfl (Ab6 s.Held r.Txn (by omega)) (A7 (A0 rfl) (A7 (A0 rfl) C0)) rfl ?_
       intro x126 ok126
       refine A1 rfl rfl rfl (B6 2 rfl D4 rfl I1 (A0 rfl) rfl) ?_
       refine W4 0 rfl fun one_x126 => ?_
       refine L0 5 rfl rfl rfl (A0 rfl) (A0 rfl) (V5 one_x126) rfl I1 rfl ?_
       refine A5 (A3 ?_)
       refine K7 (by first | (simp only [TState.ow, TState.ocs, pick, O9, O4, N9, N7, O0, List.nil_append, P0, P1, List.append_nil, N8, List.take_zero, O1, List.drop_zero]; exact rfl) | exact rfl) ?_
       refine A2 ?_
       refine A1 rfl rfl rfl (B6 3 rfl D4 rfl P2 (A0 rfl) rfl) ?_
       refine A1 rfl rfl rfl (B4 5 rfl (A0 rfl) rfl T0 rfl) ?_
       refine A1 rfl rfl rfl (B6 1 rfl C5 rfl B9 (A0 rfl) rfl) ?_
       refine A1 rfl rfl rfl (B4 7 rfl (A0 rfl) rfl C7 rfl) ?_
       refine A1 rfl rfl rfl (B6 6 rfl C5 rfl K5 (A0 rfl) rfl) ?_
       refine A1 rfl rfl rfl (B4 7 rfl (A0 rfl) rfl M6 rfl) ?_
       refine A1 rfl rfl rfl (B6 2 rfl C5 rfl B9 (A0 rfl) rfl) ?_
       refine A1 rfl rfl rfl (B4 7 rfl (A0 rfl) rfl C7 rfl) ?_
       refine A1 rfl rfl rfl (Q2 (places := #[(0, 1), (1, 1), (2, 1)]) rfl K4 Tryz.zeroValue39 (fun w => by kernel_rfl) rfl (E7 (A0 rfl) (K8 _ _) (E7 (A0 rfl) (m6 _) (E7 (A0 rfl) (K8 _ _) I6))) rfl) ?_
       refine G0 [] rfl rfl rfl rfl Tryz.call207 rfl (AK8 s.Told ⟨r.Txn, r.Yes, r.Time⟩ hgt (by omega)) (A7 (A0 rfl) (A7 (A0 rfl) C0)) rfl ?_
       intro x137 ok137
       refine A1 rfl rfl rfl (B6 3 rfl D4 rfl P2 (A0 rfl) rfl) ?_
       refine W4 0 rfl fun one_x137 => ?_
       refine L0 6 rfl rfl rfl (A0 rfl) (A0 rfl) (V5 one_x137) rfl P2 rfl ?_
       refine A5 (A3 ?_)
       refine K7 (by first | (simp only [TState.ow, TState.ocs, pick, O9, O4, N9, N7, O0, List.nil_append, P0, P1, List.append_nil, N8, List.take_zero, O1, List.drop_zero]; exact rfl) | exact rfl) ?_
       refine A2 ?_
       refine A1 rfl rfl rfl (E4 6 rfl (A0 rfl) rfl F1 D3 rfl) ?_
       refine D5 7 rfl rfl rfl (A0 rfl) (A0 rfl) (E8 _) rfl D3 rfl ?_
       refine A1 rfl rfl rfl (B8 rfl F0) ?_
       refine A5 ?_
       refine C6 ?_
       exact M8 [4, 4, 1, 0] (x126, x137) (trivial) rfl (by rfl) (Y0 rfl (by decide) (E6 (K3 (ys := _) 7 rfl rfl F1 D3 rfl) (E6 (C3 rfl (by rfl)) I8)))
    ·intro h88
     have he : applyS s r = (doneS s r s.Floor s.Cells, true) := by (rw [hap, if_neg (by rw [h88]; decide)])
     rw [he]
     unfold doneS
     refine D1 (A3 ?_)
     refine AWP.le (n3 [5, 5] 4 (.box b6 30 [_, _, AV.list 5 (s.Held.map THeld.cs), AV.list 3 (s.Told.map TTold.cs)]) rfl rfl ⟨rfl, rfl, (H2 L8 (H2 L8 (H2 (N2 (G6 (i := 0) rfl) I9) (H2 (N2 (G6 (i := 1) rfl) I9) T9))))⟩ (R8 2 rfl rfl (R8 3 rfl rfl S8))) ?_
     refine K7 (by first | (simp only [TState.ow, TState.ocs, pick, O9, O4, N9, N7, O0, List.nil_append, P0, P1, List.append_nil, N8, List.take_zero, O1, List.drop_zero]; exact rfl) | exact rfl) ?_
     refine A2 ?_
     refine A1 rfl rfl rfl (B6 2 rfl D4 rfl I1 (A0 rfl) rfl) ?_
     refine A1 rfl rfl rfl (B4 4 rfl (A0 rfl) rfl M0 rfl) ?_
     refine A1 rfl rfl rfl (B6 1 rfl C5 rfl B9 (A0 rfl) rfl) ?_
     refine A1 rfl rfl rfl (B4 6 rfl (A0 rfl) rfl C7 rfl) ?_
     refine G0 [] rfl rfl rfl rfl Tryz.call206 rfl (Ab6 s.Held r.Txn (by omega)) (A7 (A0 rfl) (A7 (A0 rfl) C0)) rfl ?_
     intro x126 ok126
     refine A1 rfl rfl rfl (B6 2 rfl D4 rfl I1 (A0 rfl) rfl) ?_
     refine W4 0 rfl fun one_x126 => ?_
     refine L0 5 rfl rfl rfl (A0 rfl) (A0 rfl) (V5 one_x126) rfl I1 rfl ?_
     refine A5 (A3 ?_)
     refine K7 (by first | (simp only [TState.ow, TState.ocs, pick, O9, O4, N9, N7, O0, List.nil_append, P0, P1, List.append_nil, N8, List.take_zero, O1, List.drop_zero]; exact rfl) | exact rfl) ?_
     refine A2 ?_
     refine A1 rfl rfl rfl (B6 3 rfl D4 rfl P2 (A0 rfl) rfl) ?_
     refine A1 rfl rfl rfl (B4 5 rfl (A0 rfl) rfl T0 rfl) ?_
     refine A1 rfl rfl rfl (B6 1 rfl C5 rfl B9 (A0 rfl) rfl) ?_
     refine A1 rfl rfl rfl (B4 7 rfl (A0 rfl) rfl C7 rfl) ?_
     refine A1 rfl rfl rfl (B6 6 rfl C5 rfl K5 (A0 rfl) rfl) ?_
     refine A1 rfl rfl rfl (B4 7 rfl (A0 rfl) rfl M6 rfl) ?_
     refine A1 rfl rfl rfl (B6 2 rfl C5 rfl B9 (A0 rfl) rfl) ?_
     refine A1 rfl rfl rfl (B4 7 rfl (A0 rfl) rfl C7 rfl) ?_
     refine A1 rfl rfl rfl (Q2 (places := #[(0, 1), (1, 1), (2, 1)]) rfl K4 Tryz.zeroValue39 (fun w => by kernel_rfl) rfl (E7 (A0 rfl) (K8 _ _) (E7 (A0 rfl) (m6 _) (E7 (A0 rfl) (K8 _ _) I6))) rfl) ?_
     refine G0 [] rfl rfl rfl rfl Tryz.call207 rfl (AK8 s.Told ⟨r.Txn, r.Yes, r.Time⟩ hgt (by omega)) (A7 (A0 rfl) (A7 (A0 rfl) C0)) rfl ?_
     intro x137 ok137
     refine A1 rfl rfl rfl (B6 3 rfl D4 rfl P2 (A0 rfl) rfl) ?_
     refine W4 0 rfl fun one_x137 => ?_
     refine L0 6 rfl rfl rfl (A0 rfl) (A0 rfl) (V5 one_x137) rfl P2 rfl ?_
     refine A5 (A3 ?_)
     refine K7 (by first | (simp only [TState.ow, TState.ocs, pick, O9, O4, N9, N7, O0, List.nil_append, P0, P1, List.append_nil, N8, List.take_zero, O1, List.drop_zero]; exact rfl) | exact rfl) ?_
     refine A2 ?_
     refine A1 rfl rfl rfl (E4 6 rfl (A0 rfl) rfl F1 D3 rfl) ?_
     refine D5 7 rfl rfl rfl (A0 rfl) (A0 rfl) (E8 _) rfl D3 rfl ?_
     refine A1 rfl rfl rfl (B8 rfl F0) ?_
     refine A5 ?_
     refine C6 ?_
     exact M8 [4, 4, 1, 0] (x126, x137) (trivial) rfl (by rfl) (Y0 rfl (by decide) (E6 (K3 (ys := _) 7 rfl rfl F1 D3 rfl) (E6 (C3 rfl (by rfl)) I8)))
end Go.Proofs.YtnlhbdkcgaeimaaGreat

set_option linter.unusedVariables false
set_option linter.unusedSimpArgs false
set_option maxRecDepth 100000
set_option maxHeartbeats 2000000
namespace Go.M
open Go.AV
structure SB (m : Int) (s : TState) : Prop where
  floor : 0 ≤ s.Floor ∧ s.Floor ≤ m
  leads : ∀ h ∈ s.Held, 0 ≤ h.Lead ∧ h.Lead ≤ 3
theorem sb_apply {m : Int} {s : TState} (g : SB m s) {r : TRec} (h1 : r.Time ≤ m) (h2 : 0 ≤ r.Lead ∧ r.Lead ≤ 3) (h : (applyS s r).2 = true) : SB m (applyS s r).1 := by
  obtain ⟨g1, g2⟩ := g
  have hless : ∀ h ∈ lessH s.Held r.Txn, 0 ≤ h.Lead ∧ h.Lead ≤ 3 := fun k hk => g2 k (AU9.1 hk).1
  unfold applyS at h ⊢
  by_cases h4 : r.Kind = 4
  · rw [if_pos h4] at h ⊢
    have := of_decide_eq_true h
    exact ⟨⟨by dsimp only; omega, h1⟩, g2⟩
  · rw [if_neg h4] at h ⊢
    by_cases hT : hasT s.Told r.Txn = true
    · rw [if_pos hT] at h; cases h
    · rw [if_neg hT] at h ⊢
      by_cases hk : r.Kind = 1
      · rw [if_pos hk] at h ⊢
        simp only [Bool.and_eq_true, Bool.not_eq_true', decide_eq_true_eq] at h
        refine ⟨⟨by dsimp only; omega, h1⟩, fun k hm => ?_⟩
        rcases AM5.1 hm with rfl | hm
        · exact h2
        · exact g2 k hm
      · rw [if_neg hk] at h ⊢
        by_cases hy : r.Yes = true
        · rw [if_pos hy] at h ⊢
          cases hf : findH s.Held r.Txn with
          | none => rw [hf] at h; cases h
          | some k =>
            rw [hf] at h
            dsimp only at h ⊢
            by_cases hlt : r.Time < k.Time
            · rw [if_pos hlt] at h; cases h
            · rw [if_neg hlt] at h ⊢
              by_cases hp : (putP s.Cells k.Writes r.Time).2 = true
              · rw [if_pos hp]; exact ⟨by unfold doneS; dsimp only; split <;> omega, hless⟩
              · rw [if_neg hp] at h; cases h
        · rw [if_neg hy]; exact ⟨g1, hless⟩
theorem sb_step {m : Int} {s : TState} (g : SB m s) {r : TRec} (h1 : r.Time ≤ m) (h2 : 0 ≤ r.Lead ∧ r.Lead ≤ 3) : SB m (stepS s r) := by
  unfold stepS
  split
  · exact sb_apply g h1 h2 ‹_›
  · exact g
theorem Ag9 {m : Int} : ∀ {l : List TRec} {s : TState}, SB m s → (∀ r ∈ l, r.Time ≤ m ∧ 0 ≤ r.Lead ∧ r.Lead ≤ 3) → SB m (stFrom s l)
  | [], s, g, _ => g
  | r :: l, s, g, h => by
    show SB m (stFrom (stepS s r) l)
    exact Ag9 (sb_step g (h r List.mem_cons_self).1 (h r List.mem_cons_self).2) fun x hx => h x (List.mem_cons_of_mem _ hx)
theorem st_phi {l : List TRec} (hl : l.length ≤ 11) (h : ∀ r ∈ l, r.size ≤ 1000) : phi (stFrom zState l) ≤ 33044 := by
  have h2 := AN1 (m := 1000) (s := zState) (l := l) h
  have h3 : phi zState = 0 := rfl
  have h5 : l.length * (3 * (1 + 1000) + 1) ≤ 11 * 3004 := Nat.mul_le_mul hl (by decide)
  omega
end Go.M
namespace Go.Proofs.YtnlhbdkcgaeimaaGreat
open Go Go.AV Go.M
attribute [local irreducible] OpW OpA OpS AWP FSpec ESpec GSpec OpE RetOk RetOkG RvDen Le Ev GuardIs SrcIs SrcE Int.tmod Int.tdiv IntKind.wrap bandI
theorem ofK_own (l : List TRec) (hl : l.length ≤ 60) (hr : ∀ r ∈ l, r.size ≤ 1100) : GSpec Tryz.prog 86 [AV.list 7 (l.map TRec.cs)] [] (fun _ : Value × Value × Value => True) (fun x => TState.ow (stFrom zState l) (x.1, x.2.1) ++ [.arr x.2.2 4 1 ((didFrom zState l).map fun b => [AV.bool b])]) (fun x => AV.tup [AV.agg (TState.ocs (stFrom zState l) (x.1, x.2.1)), AV.is x.2.2]) := by
 have hgs : ∀ i, SO (stFrom zState (l.take i)) := fun i => AS1 Ag8
 have hsz : ∀ i, (stFrom zState (l.take i)).size ≤ 300000 := fun i => by
  have h1 := Ab2 (stFrom zState (l.take i))
  have h2 := AN1 (m := 1100) (s := zState) (l := l.take i) fun r hr2 => hr r (List.mem_of_mem_take hr2)
  have h3 : phi zState = 0 := rfl
  have h4 : (l.take i).length ≤ 60 := by rw [B0]; omega
  have h5 : (l.take i).length * (3 * (1 + 1100) + 1) ≤ 60 * 3304 := Nat.mul_le_mul h4 (by decide)
  omega
 refine I2 Tryz.func86 rfl Tryz.ntmps86 rfl ?_
 refine A3 (A2 ?_)
 refine F3 rfl rfl rfl rfl Tryz.zeroValue30 rfl ?_
 intro b2
 refine A1 rfl rfl rfl (B8 rfl Q7) ?_
 refine A5 (A3 (A2 ?_))
 refine F3 rfl rfl rfl rfl Tryz.zeroValue30 rfl ?_
 intro b4
 refine A5 (A3 (A2 ?_))
 refine a7 4 1 rfl rfl rfl rfl Q7 ?_
 intro v5
 refine A5 (A3 (A3 ?_))
 refine AWP.le (Aj4 1 1 2 rfl rfl S8) ?_
 refine A2 ?_
 refine A4 rfl rfl rfl rfl rfl ?_
 refine A1 rfl rfl rfl (H3 rfl L1 (A0 rfl)) ?_
 refine A1 rfl rfl rfl (C4 rfl B5) ?_
 refine A5 (D7 ?_)
 refine f5 45 5 ?_
 refine f5 39 3 ?_
 refine AWP.le (K1 [3, 1, 0, 0] rfl) ?_
 refine g9 [(2, _), (3, _), (4, _), (10, _), (11, _)] _ (fun (i : Nat) (y : Value × Value) (v : Value) (bs : List Bool) => i ≤ l.length ∧ bs = didFrom zState (l.take i) ∧ bs.length ≤ i) (fun (i : Nat) (y : Value × Value) (v : Value) (bs : List Bool) => [.box b4 30 (TState.ocs (stFrom zState (l.take i)) y), .arr y.1 45 5 ((stFrom zState (l.take i)).Held.map THeld.cs), .arr y.2 39 3 ((stFrom zState (l.take i)).Told.map TTold.cs), .arr v 4 1 (bs.map fun b => [AV.bool b])]) (fun (i : Nat) (y : Value × Value) (v : Value) (bs : List Bool) => [(5, AV.is v), (12, AV.int i)]) (fun (i : Nat) (y : Value × Value) (v : Value) (bs : List Bool) => l.length - i) (0) (((Value.slice none 0 0), (Value.slice none 0 0))) (v5) ([]) ?_ (S7 (by rfl) ⟨rfl, rfl, rfl, rfl, rfl, rfl, rfl, trivial⟩) ?_
 ·exact ⟨Nat.zero_le _, rfl, Nat.le_refl _⟩
 intro i y v bs hinv
 refine A3 (A2 ?_)
 refine A1 rfl rfl rfl (J8 rfl (A0 rfl) (A0 rfl)) ?_
 refine A5 (A3 ?_)
 refine C8 (A0 rfl) ?_ ?_
 ·intro h13
  have k13 := of_decide_eq_true h13; try simp only [A6] at k13
  have hlt : i < l.length := by omega
  obtain ⟨r, hx⟩ := get_some hlt
  have hgr := hr r (G6 hx)
  have hgi := hgs i
  have hsi := hsz i
  refine D1 (A3 (D7 (A3 (A2 ?_))))
  refine A1 rfl rfl rfl (J4 rfl L1 H5 (A0 rfl) (A0 rfl) hx (by first | omega | (simp only [A6, B0, B7, C1, B3, szR] at *; omega))) ?_
  refine A1 rfl rfl rfl (M7 rfl (A0 rfl) O3 H5) ?_
  refine F3 rfl rfl rfl rfl Tryz.zeroValue49 rfl ?_
  intro b7
  refine D5 0 rfl rfl rfl (A0 rfl) (A0 rfl) (E8 _) rfl H5 rfl ?_
  refine A5 (A3 ?_)
  refine K7 (by first | (simp only [TState.ow, TState.ocs, pick, O9, O4, N9, N7, O0, List.nil_append, P0, P1, List.append_nil, N8, List.take_zero, O1, List.drop_zero]; exact rfl) | exact rfl) ?_
  refine A2 ?_
  refine A1 rfl rfl rfl (E4 1 rfl (A0 rfl) rfl F1 D3 rfl) ?_
  refine A1 rfl rfl rfl (E4 0 rfl (A0 rfl) rfl O3 H5 rfl) ?_
  refine G0 [2, 2] rfl rfl rfl rfl Tryz.call103 rfl (Ak3 (stFrom zState (l.take i)) y r hgi (by omega) (by omega)) (A7 (A0 rfl) (A7 (A0 rfl) C0)) rfl ?_
  intro x19 ok19
  refine A4 rfl rfl rfl rfl rfl ?_
  refine A1 rfl rfl rfl (D0 rfl (A0 rfl) rfl) ?_
  refine A1 rfl rfl rfl (D0 rfl (A0 rfl) rfl) ?_
  refine F3 rfl rfl rfl rfl Tryz.zeroValue30 rfl ?_
  intro b8
  refine D5 0 rfl rfl rfl (A0 rfl) (A0 rfl) (E8 _) rfl D3 rfl ?_
  refine B2 rfl rfl rfl rfl rfl ?_
  refine A5 (A3 (A3 ?_))
  refine K7 (by first | (simp only [TState.ow, TState.ocs, pick, O9, O4, N9, N7, O0, List.nil_append, P0, P1, List.append_nil, N8, List.take_zero, O1, List.drop_zero]; exact rfl) | exact rfl) ?_
  refine A2 ?_
  refine A4 rfl rfl rfl rfl rfl ?_
  refine A5 ?_
  refine C8 (A0 rfl) ?_ ?_
  ·intro h22
   have hstep : (applyS (stFrom zState (l.take i)) r).1 = stepS (stFrom zState (l.take i)) r := by (unfold stepS; rw [if_pos h22])
   refine K7 (by first | (simp only [TState.ow, TState.ocs, pick, O9, O4, N9, N7, O0, List.nil_append, P0, P1, List.append_nil, N8, List.take_zero, O1, List.drop_zero]; exact rfl) | exact rfl) ?_
   refine A2 ?_
   refine A1 rfl rfl rfl (E4 0 rfl (A0 rfl) rfl F1 D3 rfl) ?_
   refine D5 6 rfl rfl rfl (A0 rfl) (A0 rfl) (E8 _) rfl D3 rfl ?_
   refine A5 ?_
   refine K7 (by first | (simp only [TState.ow, TState.ocs, pick, O9, O4, N9, N7, O0, List.nil_append, P0, P1, List.append_nil, N8, List.take_zero, O1, List.drop_zero]; exact rfl) | exact rfl) ?_
   refine A2 ?_
   refine A4 rfl rfl rfl rfl rfl ?_
   refine A4 rfl rfl rfl rfl rfl ?_
   refine A1 rfl rfl rfl (M3 rfl Tryz.underlying31 K5 Tryz.zeroValue4 rfl rfl rfl rfl (E7 (A0 rfl) (m6 _) I6) rfl rfl) ?_
   refine M9 (by' := 1) 7 rfl rfl rfl rfl Tryz.underlying31 Tryz.type4 rfl rfl rfl rfl rfl rfl (A0 rfl) (A0 rfl) rfl (by first | omega | (simp only [A6, B0, B7, C1, B3, szR] at *; omega)) ?_
   intro v27_1
   refine B2 rfl rfl rfl rfl rfl ?_
   refine A5 (A2 ?_)
   refine A1 rfl rfl rfl (G5 rfl (A0 rfl) B5 (by first | omega | (simp only [A6, B0, B7, C1, B3, szR] at *; omega))) ?_
   refine A4 rfl rfl rfl rfl rfl ?_
   refine A5 ?_
   refine W6 i y v bs (i + 1) ((x19.1, x19.2)) (v27_1) (bs ++ [(applyS (stFrom zState (l.take i)) r).2]) ?_ ?_ (Le.trans (K1 [0, 0, 0, 2, 2, 0, 0, 0] rfl) (N0 4 (by first | (rw [List.map_append, AK6 hx, ← hstep]; rfl) | rfl) ⟨rfl, rfl, rfl, rfl, rfl, rfl, rfl, trivial⟩))
   ·exact ⟨by omega, by rw [AH6 hx, hinv.2.1], by rw [J9]; simp; omega⟩
   ·omega
  ·intro h22
   have hstep : stFrom zState (l.take i) = stepS (stFrom zState (l.take i)) r := by (conv => rhs; unfold stepS; rw [if_neg (by rw [h22]; decide)])
   refine D1 ?_
   refine K7 (by first | (simp only [TState.ow, TState.ocs, pick, O9, O4, N9, N7, O0, List.nil_append, P0, P1, List.append_nil, N8, List.take_zero, O1, List.drop_zero]; exact rfl) | exact rfl) ?_
   refine A2 ?_
   refine A4 rfl rfl rfl rfl rfl ?_
   refine A4 rfl rfl rfl rfl rfl ?_
   refine A1 rfl rfl rfl (M3 rfl Tryz.underlying31 K5 Tryz.zeroValue4 rfl rfl rfl rfl (E7 (A0 rfl) (m6 _) I6) rfl rfl) ?_
   refine M9 (by' := 1) 7 rfl rfl rfl rfl Tryz.underlying31 Tryz.type4 rfl rfl rfl rfl rfl rfl (A0 rfl) (A0 rfl) rfl (by first | omega | (simp only [A6, B0, B7, C1, B3, szR] at *; omega)) ?_
   intro v27_2
   refine B2 rfl rfl rfl rfl rfl ?_
   refine A5 (A2 ?_)
   refine A1 rfl rfl rfl (G5 rfl (A0 rfl) B5 (by first | omega | (simp only [A6, B0, B7, C1, B3, szR] at *; omega))) ?_
   refine A4 rfl rfl rfl rfl rfl ?_
   refine A5 ?_
   refine W6 i y v bs (i + 1) ((y.1, y.2)) (v27_2) (bs ++ [(applyS (stFrom zState (l.take i)) r).2]) ?_ ?_ (Le.trans (K1 [0, 2, 2, 2, 2, 0, 0, 0] rfl) (N0 4 (by first | (rw [List.map_append, AK6 hx, ← hstep]; rfl) | rfl) ⟨rfl, rfl, rfl, rfl, rfl, rfl, rfl, trivial⟩))
   ·exact ⟨by omega, by rw [AH6 hx, hinv.2.1], by rw [J9]; simp; omega⟩
   ·omega
 ·intro h13
  have k13 := of_decide_eq_false h13; try simp only [A6] at k13
  have hge : i = l.length := by omega
  have hbs := hinv.2.1
  rw [hge, List.take_length] at hbs
  rw [hge, List.take_length, ← hbs]
  refine H4 ?_
  refine A3 ?_
  refine K7 (by first | (simp only [TState.ow, TState.ocs, pick, O9, O4, N9, N7, O0, List.nil_append, P0, P1, List.append_nil, N8, List.take_zero, O1, List.drop_zero]; exact rfl) | exact rfl) ?_
  refine A2 ?_
  refine A1 rfl rfl rfl (E4 0 rfl (A0 rfl) rfl F1 D3 rfl) ?_
  refine A4 rfl rfl rfl rfl rfl ?_
  refine D5 4 rfl rfl rfl (A0 rfl) (A0 rfl) (E8 _) rfl D3 rfl ?_
  refine B2 rfl rfl rfl rfl rfl ?_
  refine A5 ?_
  refine C6 ?_
  exact M8 [1, 1, 1] (y.1, y.2, v) (trivial) rfl (by rfl) (Y0 rfl (by decide) (E6 (K3 (ys := _) 4 rfl rfl F1 D3 rfl) (E6 (C3 rfl (by rfl)) I8)))
theorem Ae8 (b : Nat) (code : List Int) (hcode : ByteL code) (c : TCur) (hp : c.p ≤ 2000000) : GSpec Tryz.prog 175 [AV.ptr b 0] [.box b 127 (curC code c)] (fun x : TCur × TRec => x.1.p ≤ c.p + 100 ∧ x.2.size ≤ 1000 ∧ 0 ≤ x.2.Lead ∧ x.2.Lead ≤ 3 ∧ 0 ≤ x.2.Time ∧ x.2.Time ≤ 100001) (fun x => [.box b 127 (curC code x.1)]) (fun x => AV.agg x.2.cs) :=
  AK0 (fun x => (x.1, x.2.1)) (fun x => TRec.ow x.2.1 x.2.2) (fun x => [.box b 127 (curC code x.1)]) (Ak2 b code hcode c hp) (fun _ h => h) (fun x _ => i3 (TRec.lc _ _)) (fun x _ => List.perm_append_comm (l₁ := [_])) (fun _ _ => R8 0 rfl rfl S8) (fun x _ => oc_cons ⟨rfl, rfl, AA0⟩ oc_nil)
theorem Ae9 (b : Nat) (code : List Int) (hcode : ByteL code) (c : TCur) (hp : c.p ≤ 900000) : GSpec Tryz.prog 78 [AV.ptr b 0] [.box b 127 (curC code c)] (fun x : TCur × List TRec × Value => x.1.p ≤ c.p + 1300 ∧ x.2.1.length ≤ 11 ∧ ∀ r ∈ x.2.1, r.size ≤ 1000 ∧ r.Time ≤ 33 ∧ 0 ≤ r.Lead ∧ r.Lead ≤ 3) (fun x => [.box b 127 (curC code x.1), .arr x.2.2 49 7 (x.2.1.map TRec.cs)]) (fun x => AV.is x.2.2) := by
 refine I2 Tryz.func78 rfl Tryz.ntmps78 rfl ?_
 refine A3 (A2 ?_)
 refine A1 rfl rfl rfl (B8 rfl Q7) ?_
 refine A5 (A3 (A2 ?_))
 refine a7 49 7 rfl rfl rfl rfl Q7 ?_
 intro v3
 refine A5 (A3 (A2 ?_))
 refine A1 rfl rfl rfl (B8 rfl B5) ?_
 refine A5 (A3 (A3 (A2 ?_)))
 refine A4 rfl rfl rfl rfl rfl ?_
 refine G0 [1] rfl rfl rfl rfl Tryz.call100 rfl (N3 _ _ hcode _ _ (by omega) (by omega)) (A7 (A0 rfl) (A7 B5 C0)) rfl ?_
 intro x9 ok9
 refine B2 rfl rfl rfl rfl rfl ?_
 refine A5 (D7 ?_)
 refine AWP.le (K1 [0, 0] rfl) ?_
 refine Ac8 [(0, _), (2, _)] _ (fun (n : Int) (cc : TCur) (l : List TRec) (v : Value) (t : Int) => (0 ≤ n ∧ n + l.length ≤ 11) ∧ cc.p + 110 * n ≤ c.p + 1220 ∧ (0 ≤ t ∧ t + 3 * n ≤ 33) ∧ ∀ r ∈ l, r.size ≤ 1000 ∧ r.Time ≤ 33 ∧ 0 ≤ r.Lead ∧ r.Lead ≤ 3) (fun (n : Int) (cc : TCur) (l : List TRec) (v : Value) (t : Int) => [.box b 127 (curC code cc), .arr v 49 7 (l.map TRec.cs)]) (fun (n : Int) (cc : TCur) (l : List TRec) (v : Value) (t : Int) => [(3, AV.is v), (4, AV.int t), (5, AV.int n)]) (fun (n : Int) (cc : TCur) (l : List TRec) (v : Value) (t : Int) => n.toNat) (x9.2) (x9.1) ([]) (v3) (0) ?_ (S7 (by rfl) ⟨rfl, rfl, rfl, rfl, rfl, trivial⟩) ?_
 ·exact ⟨⟨by omega, by simp; omega⟩, by omega, ⟨by omega, by omega⟩, fun r hr => by cases hr⟩
 intro n cc l v t hinv
 refine A3 (A3 (A2 ?_))
 refine A4 rfl rfl rfl rfl rfl ?_
 refine A1 rfl rfl rfl (O5 rfl (A0 rfl) B5) ?_
 refine A5 ?_
 refine C8 (A0 rfl) ?_ ?_
 ·intro h11
  have k11 := of_decide_eq_true h11; try simp only [A6] at k11
  refine D1 (A3 (D7 (A3 (A2 ?_))))
  refine A4 rfl rfl rfl rfl rfl ?_
  refine G0 [0] rfl rfl rfl rfl Tryz.call175 rfl (Ae8 _ _ hcode _ (by omega)) (A7 (A0 rfl) C0) rfl ?_
  intro x15 ok15
  refine F3 rfl rfl rfl rfl Tryz.zeroValue49 rfl ?_
  intro b6
  refine D5 0 rfl rfl rfl (A0 rfl) (A0 rfl) (E8 _) rfl H5 rfl ?_
  refine A5 (A3 (A2 ?_))
  refine A4 rfl rfl rfl rfl rfl ?_
  refine A4 rfl rfl rfl rfl rfl ?_
  refine G0 [1] rfl rfl rfl rfl Tryz.call100 rfl (N3 _ _ hcode _ _ (by omega) (by omega)) (A7 (A0 rfl) (A7 B5 C0)) rfl ?_
  intro x18 ok18
  refine A1 rfl rfl rfl (G5 rfl B5 (A0 rfl) (by first | omega | (simp only [A6, B0, B7, C1, B3, szR] at *; omega))) ?_
  refine A1 rfl rfl rfl (G5 rfl (A0 rfl) (A0 rfl) (by first | omega | (simp only [A6, B0, B7, C1, B3, szR] at *; omega))) ?_
  refine B2 rfl rfl rfl rfl rfl ?_
  refine A5 (A3 (A3 (A2 ?_)))
  refine A1 rfl rfl rfl (B6 2 rfl C5 rfl B9 (A0 rfl) rfl) ?_
  refine A1 rfl rfl rfl (B4 1 rfl (A0 rfl) rfl C7 rfl) ?_
  refine A1 rfl rfl rfl (O5 rfl (A0 rfl) B5) ?_
  refine A5 ?_
  refine C8 (A0 rfl) ?_ ?_
  ·intro h23
   have k23 := of_decide_eq_true h23; try simp only [A6] at k23
   refine A2 ?_
   refine A4 rfl rfl rfl rfl rfl ?_
   refine A1 rfl rfl rfl (B6 2 rfl C5 rfl B9 (A0 rfl) rfl) ?_
   refine L0 1 rfl rfl rfl (A0 rfl) (A0 rfl) (K8 _ _) rfl B9 rfl ?_
   refine A5 (A3 (A3 (A2 ?_)))
   refine A1 rfl rfl rfl (B6 0 rfl C5 rfl B9 (A0 rfl) rfl) ?_
   refine A1 rfl rfl rfl (B4 1 rfl (A0 rfl) rfl C7 rfl) ?_
   refine A1 rfl rfl rfl (M5 rfl (A0 rfl) B5) ?_
   refine A4 rfl rfl rfl rfl rfl ?_
   refine A9 rfl rfl (C9 rfl rfl rfl) (fun hc => B6 0 rfl C5 rfl B9 (A0 rfl) rfl) ?_
   refine A9 rfl rfl (C9 rfl rfl rfl) (fun hc => B4 1 rfl (A8 rfl hc) rfl C7 rfl) ?_
   refine A9 rfl rfl (C9 rfl rfl rfl) (fun hc => M5 rfl (A8 rfl hc) B5) ?_
   refine A1 rfl rfl rfl (N4 rfl (A0 rfl) (E3 rfl)) ?_
   refine A4 rfl rfl rfl rfl rfl ?_
   refine A9 rfl rfl (B1 rfl rfl rfl) (fun hc => C4 rfl (A0 rfl)) ?_
   refine A9 rfl rfl (B1 rfl rfl rfl) (fun hc => U5 2 rfl L1 (A8 rfl hc) rfl) ?_
   refine A9 rfl rfl (B1 rfl rfl rfl) (fun hc => O5 rfl (A8 rfl hc) B5) ?_
   refine A1 rfl rfl rfl (G1 rfl (A0 rfl) (E3 rfl)) ?_
   refine A5 ?_
   refine C8 (A0 rfl) ?_ ?_
   ·intro h38
    have hll : 0 < l.length := by (cases hm : l with | nil => (rw [hm] at h38; simp at h38) | cons y q => simp)
    refine A3 (A2 ?_)
    refine A4 rfl rfl rfl rfl rfl ?_
    refine A4 rfl rfl rfl rfl rfl ?_
    refine A4 rfl rfl rfl rfl rfl ?_
    refine A1 rfl rfl rfl (U5 2 rfl L1 (A0 rfl) rfl) ?_
    refine G0 [0] rfl rfl rfl rfl Tryz.call100 rfl (N3 _ _ hcode _ _ (by simp only [A6]; omega) (by omega)) (A7 (A0 rfl) (A7 (A0 rfl) C0)) rfl ?_
    intro x43 ok43
    have hix : x43.2.toNat < l.length := by (have h9 := ok43.2; simp only [A6] at h9; omega)
    obtain ⟨z, hz⟩ := get_some hix
    have hrow : (l.map TRec.cs)[x43.2.toNat]? = some z.cs := by (rw [List.getElem?_map, hz]; rfl)
    refine A1 rfl rfl rfl (V8 2 rfl L1 H5 (A0 rfl) rfl (A0 rfl) (by omega) (by first | omega | (simp only [A6]; omega))) ?_
    refine A1 rfl rfl rfl (k0 2 rfl (A0 rfl) rfl O3 H5 hrow (by decide)) ?_
    refine F3 rfl rfl rfl rfl Tryz.zeroValue49 rfl ?_
    intro b7
    refine D5 0 rfl rfl rfl (A0 rfl) (A0 rfl) (E8 _) rfl H5 rfl ?_
    refine A5 (A3 (A2 ?_))
    refine A1 rfl rfl rfl (B6 0 rfl C5 rfl B9 (A0 rfl) rfl) ?_
    refine A1 rfl rfl rfl (B4 0 rfl (A0 rfl) rfl C7 rfl) ?_
    refine A1 rfl rfl rfl (M5 rfl (A0 rfl) B5) ?_
    refine A5 ?_
    refine C8 (A0 rfl) ?_ ?_
    ·intro h48
     have k48 := N6 h48; try simp only [A6] at k48
     refine A2 ?_
     refine A1 rfl rfl rfl (B6 1 rfl C5 rfl B9 (A0 rfl) rfl) ?_
     refine A1 rfl rfl rfl (B4 0 rfl (A0 rfl) rfl C7 rfl) ?_
     refine A1 rfl rfl rfl (B6 1 rfl C5 rfl B9 (A0 rfl) rfl) ?_
     refine L0 2 rfl rfl rfl (A0 rfl) (A0 rfl) (K8 _ _) rfl B9 rfl ?_
     refine A5 (A2 ?_)
     refine A4 rfl rfl rfl rfl rfl ?_
     refine A1 rfl rfl rfl (E4 2 rfl (A0 rfl) rfl O3 H5 rfl) ?_
     refine A1 rfl rfl rfl (M3 rfl L1 H5 Tryz.zeroValue49 rfl rfl rfl rfl (E7 (A0 rfl) (E8 _) I6) rfl rfl) ?_
     refine M9 (by' := 88) 3 rfl rfl rfl rfl L1 Tryz.type49 rfl rfl rfl rfl rfl rfl (A0 rfl) (A0 rfl) rfl (by first | omega | (simp only [A6, B0, B7, C1, B3, szR] at *; omega)) ?_
     intro v55_1
     refine B2 rfl rfl rfl rfl rfl ?_
     refine A5 (A2 ?_)
     refine A4 rfl rfl rfl rfl rfl ?_
     refine A1 rfl rfl rfl (N1 rfl (A0 rfl) B5 (by first | omega | (simp only [A6, B0, B7, C1, B3, szR] at *; omega))) ?_
     refine B2 rfl rfl rfl rfl rfl ?_
     refine A5 ?_
     refine f1 n cc l v t (n - 1) (x43.1) (l ++ [⟨x15.2.Kind, z.Txn, t + (1 + x18.2), x15.2.Lead, x15.2.Reads, x15.2.Writes, x15.2.Yes⟩]) (v55_1) (t + (1 + x18.2)) ?_ ?_ (Le.trans (K1 [0, 1, 0, 0] rfl) (N0 2 (by (rw [List.map_append]; rfl)) ⟨rfl, rfl, rfl, rfl, rfl, trivial⟩))
     ·exact ⟨⟨by omega, by rw [J9]; simp; omega⟩, by omega, ⟨by omega, by omega⟩, fun q hq => by (rcases List.mem_append.1 hq with hq | hq; (exact hinv.2.2.2 q hq); (rw [List.mem_singleton.1 hq]; exact ⟨ok15.2.1, by first | (dsimp only; omega) | omega, ok15.2.2.1, ok15.2.2.2.1⟩))⟩
     ·omega
    ·intro h48
     have k48 := N5 h48; try simp only [A6] at k48
     refine D1 (A2 ?_)
     refine A4 rfl rfl rfl rfl rfl ?_
     refine A1 rfl rfl rfl (E4 2 rfl (A0 rfl) rfl O3 H5 rfl) ?_
     refine A1 rfl rfl rfl (M3 rfl L1 H5 Tryz.zeroValue49 rfl rfl rfl rfl (E7 (A0 rfl) (E8 _) I6) rfl rfl) ?_
     refine M9 (by' := 88) 3 rfl rfl rfl rfl L1 Tryz.type49 rfl rfl rfl rfl rfl rfl (A0 rfl) (A0 rfl) rfl (by first | omega | (simp only [A6, B0, B7, C1, B3, szR] at *; omega)) ?_
     intro v55_2
     refine B2 rfl rfl rfl rfl rfl ?_
     refine A5 (A2 ?_)
     refine A4 rfl rfl rfl rfl rfl ?_
     refine A1 rfl rfl rfl (N1 rfl (A0 rfl) B5 (by first | omega | (simp only [A6, B0, B7, C1, B3, szR] at *; omega))) ?_
     refine B2 rfl rfl rfl rfl rfl ?_
     refine A5 ?_
     refine f1 n cc l v t (n - 1) (x43.1) (l ++ [⟨x15.2.Kind, x15.2.Txn, t + (1 + x18.2), x15.2.Lead, x15.2.Reads, x15.2.Writes, x15.2.Yes⟩]) (v55_2) (t + (1 + x18.2)) ?_ ?_ (Le.trans (K1 [0, 1, 0, 0] rfl) (N0 2 (by (rw [List.map_append]; rfl)) ⟨rfl, rfl, rfl, rfl, rfl, trivial⟩))
     ·exact ⟨⟨by omega, by rw [J9]; simp; omega⟩, by omega, ⟨by omega, by omega⟩, fun q hq => by (rcases List.mem_append.1 hq with hq | hq; (exact hinv.2.2.2 q hq); (rw [List.mem_singleton.1 hq]; exact ⟨ok15.2.1, by first | (dsimp only; omega) | omega, ok15.2.2.1, ok15.2.2.2.1⟩))⟩
     ·omega
   ·intro h38
    refine D1 (A2 ?_)
    refine A4 rfl rfl rfl rfl rfl ?_
    refine A1 rfl rfl rfl (E4 1 rfl (A0 rfl) rfl O3 H5 rfl) ?_
    refine A1 rfl rfl rfl (M3 rfl L1 H5 Tryz.zeroValue49 rfl rfl rfl rfl (E7 (A0 rfl) (E8 _) I6) rfl rfl) ?_
    refine M9 (by' := 88) 2 rfl rfl rfl rfl L1 Tryz.type49 rfl rfl rfl rfl rfl rfl (A0 rfl) (A0 rfl) rfl (by first | omega | (simp only [A6, B0, B7, C1, B3, szR] at *; omega)) ?_
    intro v55_3
    refine B2 rfl rfl rfl rfl rfl ?_
    refine A5 (A2 ?_)
    refine A4 rfl rfl rfl rfl rfl ?_
    refine A1 rfl rfl rfl (N1 rfl (A0 rfl) B5 (by first | omega | (simp only [A6, B0, B7, C1, B3, szR] at *; omega))) ?_
    refine B2 rfl rfl rfl rfl rfl ?_
    refine A5 ?_
    refine f1 n cc l v t (n - 1) (x18.1) (l ++ [⟨x15.2.Kind, x15.2.Txn, t + (1 + x18.2), x15.2.Lead, x15.2.Reads, x15.2.Writes, x15.2.Yes⟩]) (v55_3) (t + (1 + x18.2)) ?_ ?_ (Le.trans (K1 [1, 0, 0] rfl) (N0 1 (by (rw [List.map_append]; rfl)) ⟨rfl, rfl, rfl, rfl, rfl, trivial⟩))
    ·exact ⟨⟨by omega, by rw [J9]; simp; omega⟩, by omega, ⟨by omega, by omega⟩, fun q hq => by (rcases List.mem_append.1 hq with hq | hq; (exact hinv.2.2.2 q hq); (rw [List.mem_singleton.1 hq]; exact ⟨ok15.2.1, by first | (dsimp only; omega) | omega, ok15.2.2.1, ok15.2.2.2.1⟩))⟩
    ·omega
  ·intro h23
   have k23 := of_decide_eq_false h23; try simp only [A6] at k23
   refine D1 (A3 (A3 (A2 ?_)))
   refine A1 rfl rfl rfl (B6 0 rfl C5 rfl B9 (A0 rfl) rfl) ?_
   refine A1 rfl rfl rfl (B4 1 rfl (A0 rfl) rfl C7 rfl) ?_
   refine A1 rfl rfl rfl (M5 rfl (A0 rfl) B5) ?_
   refine A4 rfl rfl rfl rfl rfl ?_
   refine A9 rfl rfl (C9 rfl rfl rfl) (fun hc => B6 0 rfl C5 rfl B9 (A0 rfl) rfl) ?_
   refine A9 rfl rfl (C9 rfl rfl rfl) (fun hc => B4 1 rfl (A8 rfl hc) rfl C7 rfl) ?_
   refine A9 rfl rfl (C9 rfl rfl rfl) (fun hc => M5 rfl (A8 rfl hc) B5) ?_
   refine A1 rfl rfl rfl (N4 rfl (A0 rfl) (E3 rfl)) ?_
   refine A4 rfl rfl rfl rfl rfl ?_
   refine A9 rfl rfl (B1 rfl rfl rfl) (fun hc => C4 rfl (A0 rfl)) ?_
   refine A9 rfl rfl (B1 rfl rfl rfl) (fun hc => U5 2 rfl L1 (A8 rfl hc) rfl) ?_
   refine A9 rfl rfl (B1 rfl rfl rfl) (fun hc => O5 rfl (A8 rfl hc) B5) ?_
   refine A1 rfl rfl rfl (G1 rfl (A0 rfl) (E3 rfl)) ?_
   refine A5 ?_
   refine C8 (A0 rfl) ?_ ?_
   ·intro h38
    have hll : 0 < l.length := by (cases hm : l with | nil => (rw [hm] at h38; simp at h38) | cons y q => simp)
    refine A3 (A2 ?_)
    refine A4 rfl rfl rfl rfl rfl ?_
    refine A4 rfl rfl rfl rfl rfl ?_
    refine A4 rfl rfl rfl rfl rfl ?_
    refine A1 rfl rfl rfl (U5 2 rfl L1 (A0 rfl) rfl) ?_
    refine G0 [0] rfl rfl rfl rfl Tryz.call100 rfl (N3 _ _ hcode _ _ (by simp only [A6]; omega) (by omega)) (A7 (A0 rfl) (A7 (A0 rfl) C0)) rfl ?_
    intro x43 ok43
    have hix : x43.2.toNat < l.length := by (have h9 := ok43.2; simp only [A6] at h9; omega)
    obtain ⟨z, hz⟩ := get_some hix
    have hrow : (l.map TRec.cs)[x43.2.toNat]? = some z.cs := by (rw [List.getElem?_map, hz]; rfl)
    refine A1 rfl rfl rfl (V8 2 rfl L1 H5 (A0 rfl) rfl (A0 rfl) (by omega) (by first | omega | (simp only [A6]; omega))) ?_
    refine A1 rfl rfl rfl (k0 2 rfl (A0 rfl) rfl O3 H5 hrow (by decide)) ?_
    refine F3 rfl rfl rfl rfl Tryz.zeroValue49 rfl ?_
    intro b7
    refine D5 0 rfl rfl rfl (A0 rfl) (A0 rfl) (E8 _) rfl H5 rfl ?_
    refine A5 (A3 (A2 ?_))
    refine A1 rfl rfl rfl (B6 0 rfl C5 rfl B9 (A0 rfl) rfl) ?_
    refine A1 rfl rfl rfl (B4 0 rfl (A0 rfl) rfl C7 rfl) ?_
    refine A1 rfl rfl rfl (M5 rfl (A0 rfl) B5) ?_
    refine A5 ?_
    refine C8 (A0 rfl) ?_ ?_
    ·intro h48
     have k48 := N6 h48; try simp only [A6] at k48
     refine A2 ?_
     refine A1 rfl rfl rfl (B6 1 rfl C5 rfl B9 (A0 rfl) rfl) ?_
     refine A1 rfl rfl rfl (B4 0 rfl (A0 rfl) rfl C7 rfl) ?_
     refine A1 rfl rfl rfl (B6 1 rfl C5 rfl B9 (A0 rfl) rfl) ?_
     refine L0 2 rfl rfl rfl (A0 rfl) (A0 rfl) (K8 _ _) rfl B9 rfl ?_
     refine A5 (A2 ?_)
     refine A4 rfl rfl rfl rfl rfl ?_
     refine A1 rfl rfl rfl (E4 2 rfl (A0 rfl) rfl O3 H5 rfl) ?_
     refine A1 rfl rfl rfl (M3 rfl L1 H5 Tryz.zeroValue49 rfl rfl rfl rfl (E7 (A0 rfl) (E8 _) I6) rfl rfl) ?_
     refine M9 (by' := 88) 3 rfl rfl rfl rfl L1 Tryz.type49 rfl rfl rfl rfl rfl rfl (A0 rfl) (A0 rfl) rfl (by first | omega | (simp only [A6, B0, B7, C1, B3, szR] at *; omega)) ?_
     intro v55_4
     refine B2 rfl rfl rfl rfl rfl ?_
     refine A5 (A2 ?_)
     refine A4 rfl rfl rfl rfl rfl ?_
     refine A1 rfl rfl rfl (N1 rfl (A0 rfl) B5 (by first | omega | (simp only [A6, B0, B7, C1, B3, szR] at *; omega))) ?_
     refine B2 rfl rfl rfl rfl rfl ?_
     refine A5 ?_
     refine f1 n cc l v t (n - 1) (x43.1) (l ++ [⟨x15.2.Kind, z.Txn, x15.2.Time, x15.2.Lead, x15.2.Reads, x15.2.Writes, x15.2.Yes⟩]) (v55_4) (t + (1 + x18.2)) ?_ ?_ (Le.trans (K1 [0, 1, 0, 0] rfl) (N0 2 (by (rw [List.map_append]; rfl)) ⟨rfl, rfl, rfl, rfl, rfl, trivial⟩))
     ·exact ⟨⟨by omega, by rw [J9]; simp; omega⟩, by omega, ⟨by omega, by omega⟩, fun q hq => by (rcases List.mem_append.1 hq with hq | hq; (exact hinv.2.2.2 q hq); (rw [List.mem_singleton.1 hq]; exact ⟨ok15.2.1, by first | (dsimp only; omega) | omega, ok15.2.2.1, ok15.2.2.2.1⟩))⟩
     ·omega
    ·intro h48
     have k48 := N5 h48; try simp only [A6] at k48
     refine D1 (A2 ?_)
     refine A4 rfl rfl rfl rfl rfl ?_
     refine A1 rfl rfl rfl (E4 2 rfl (A0 rfl) rfl O3 H5 rfl) ?_
     refine A1 rfl rfl rfl (M3 rfl L1 H5 Tryz.zeroValue49 rfl rfl rfl rfl (E7 (A0 rfl) (E8 _) I6) rfl rfl) ?_
     refine M9 (by' := 88) 3 rfl rfl rfl rfl L1 Tryz.type49 rfl rfl rfl rfl rfl rfl (A0 rfl) (A0 rfl) rfl (by first | omega | (simp only [A6, B0, B7, C1, B3, szR] at *; omega)) ?_
     intro v55_5
     refine B2 rfl rfl rfl rfl rfl ?_
     refine A5 (A2 ?_)
     refine A4 rfl rfl rfl rfl rfl ?_
     refine A1 rfl rfl rfl (N1 rfl (A0 rfl) B5 (by first | omega | (simp only [A6, B0, B7, C1, B3, szR] at *; omega))) ?_
     refine B2 rfl rfl rfl rfl rfl ?_
     refine A5 ?_
     refine f1 n cc l v t (n - 1) (x43.1) (l ++ [⟨x15.2.Kind, x15.2.Txn, x15.2.Time, x15.2.Lead, x15.2.Reads, x15.2.Writes, x15.2.Yes⟩]) (v55_5) (t + (1 + x18.2)) ?_ ?_ (Le.trans (K1 [0, 1, 0, 0] rfl) (N0 2 (by (rw [List.map_append]; rfl)) ⟨rfl, rfl, rfl, rfl, rfl, trivial⟩))
     ·exact ⟨⟨by omega, by rw [J9]; simp; omega⟩, by omega, ⟨by omega, by omega⟩, fun q hq => by (rcases List.mem_append.1 hq with hq | hq; (exact hinv.2.2.2 q hq); (rw [List.mem_singleton.1 hq]; exact ⟨ok15.2.1, by first | (dsimp only; omega) | omega, ok15.2.2.1, ok15.2.2.2.1⟩))⟩
     ·omega
   ·intro h38
    refine D1 (A2 ?_)
    refine A4 rfl rfl rfl rfl rfl ?_
    refine A1 rfl rfl rfl (E4 1 rfl (A0 rfl) rfl O3 H5 rfl) ?_
    refine A1 rfl rfl rfl (M3 rfl L1 H5 Tryz.zeroValue49 rfl rfl rfl rfl (E7 (A0 rfl) (E8 _) I6) rfl rfl) ?_
    refine M9 (by' := 88) 2 rfl rfl rfl rfl L1 Tryz.type49 rfl rfl rfl rfl rfl rfl (A0 rfl) (A0 rfl) rfl (by first | omega | (simp only [A6, B0, B7, C1, B3, szR] at *; omega)) ?_
    intro v55_6
    refine B2 rfl rfl rfl rfl rfl ?_
    refine A5 (A2 ?_)
    refine A4 rfl rfl rfl rfl rfl ?_
    refine A1 rfl rfl rfl (N1 rfl (A0 rfl) B5 (by first | omega | (simp only [A6, B0, B7, C1, B3, szR] at *; omega))) ?_
    refine B2 rfl rfl rfl rfl rfl ?_
    refine A5 ?_
    refine f1 n cc l v t (n - 1) (x18.1) (l ++ [⟨x15.2.Kind, x15.2.Txn, x15.2.Time, x15.2.Lead, x15.2.Reads, x15.2.Writes, x15.2.Yes⟩]) (v55_6) (t + (1 + x18.2)) ?_ ?_ (Le.trans (K1 [1, 0, 0] rfl) (N0 1 (by (rw [List.map_append]; rfl)) ⟨rfl, rfl, rfl, rfl, rfl, trivial⟩))
    ·exact ⟨⟨by omega, by rw [J9]; simp; omega⟩, by omega, ⟨by omega, by omega⟩, fun q hq => by (rcases List.mem_append.1 hq with hq | hq; (exact hinv.2.2.2 q hq); (rw [List.mem_singleton.1 hq]; exact ⟨ok15.2.1, by first | (dsimp only; omega) | omega, ok15.2.2.1, ok15.2.2.2.1⟩))⟩
    ·omega
 ·intro h11
  have k11 := of_decide_eq_false h11; try simp only [A6] at k11
  refine H4 ?_
  refine A3 (A2 ?_)
  refine A4 rfl rfl rfl rfl rfl ?_
  refine B2 rfl rfl rfl rfl rfl ?_
  refine A5 ?_
  refine C6 ?_
  (refine M8 [0, 0] ((cc, l, v)) ?_ rfl (by first | (dsimp only; rfl) | rfl) (Q4 rfl (C3 rfl (by rfl))); exact ⟨show cc.p ≤ _ by omega, show l.length ≤ 11 by omega, hinv.2.2.2⟩)
theorem Ac1 (b : Nat) (code : List Int) (hcode : ByteL code) (c : TCur) (hp : c.p ≤ 900000) : GSpec Tryz.prog 196 [AV.ptr b 0] [.box b 127 (curC code c)] (fun x : TCur × TState × Value × Value => x.1.p ≤ c.p + 1300 ∧ SO x.2.1 ∧ SB 33 x.2.1 ∧ x.2.1.size ≤ 33044) (fun x => .box b 127 (curC code x.1) :: TState.ow x.2.1 x.2.2) (fun x => AV.agg (TState.ocs x.2.1 x.2.2)) := by
 refine I2 Tryz.func196 rfl Tryz.ntmps196 rfl ?_
 refine A3 (A2 ?_)
 refine F3 rfl rfl rfl rfl Tryz.zeroValue30 rfl ?_
 intro b2
 refine A5 (A3 (A2 ?_))
 refine A4 rfl rfl rfl rfl rfl ?_
 refine G0 [1] rfl rfl rfl rfl Tryz.call78 rfl (Ae9 _ _ hcode _ (by omega)) (A7 (A0 rfl) C0) rfl ?_
 intro x7 ok7
 refine AB6 (X7 [1] 7 rfl rfl (N2 (G6 (i := 0) rfl) I9) (R8 0 rfl rfl S8)) ?_
 refine G0 [] rfl rfl rfl rfl Tryz.call86 rfl (ofK_own x7.2.1 (by omega) (fun r hr => by have := (ok7.2.2 r hr).1; omega)) (A7 (A0 rfl) C0) rfl ?_
 intro x8 ok8
 refine A4 rfl rfl rfl rfl rfl ?_
 refine A1 rfl rfl rfl (D0 rfl (A0 rfl) rfl) ?_
 refine A1 rfl rfl rfl (D0 rfl (A0 rfl) rfl) ?_
 refine F3 rfl rfl rfl rfl Tryz.zeroValue30 rfl ?_
 intro b3
 refine D5 0 rfl rfl rfl (A0 rfl) (A0 rfl) (E8 _) rfl D3 rfl ?_
 refine B2 rfl rfl rfl rfl rfl ?_
 refine A5 (A3 ?_)
 refine K7 (by first | (simp only [TState.ow, TState.ocs, pick, O9, O4, N9, N7, O0, List.nil_append, P0, P1, List.append_nil, N8, List.take_zero, O1, List.drop_zero]; exact rfl) | exact rfl) ?_
 refine A2 ?_
 refine A1 rfl rfl rfl (E4 0 rfl (A0 rfl) rfl F1 D3 rfl) ?_
 refine D5 5 rfl rfl rfl (A0 rfl) (A0 rfl) (E8 _) rfl D3 rfl ?_
 refine A5 ?_
 refine C6 ?_
 (refine M8 [4, 1, 1] ((x7.1, stFrom zState x7.2.1, x8.1, x8.2.1)) ?_ rfl (by first | (dsimp only; rfl) | rfl) (Q4 rfl (K3 (ys := _) 5 rfl rfl F1 D3 rfl)); exact ⟨ok7.1, AS1 Ag8, Ag9 ⟨⟨by decide, by decide⟩, fun h hm => by cases hm⟩ (fun r hr => ⟨(ok7.2.2 r hr).2.1, (ok7.2.2 r hr).2.2⟩), Nat.le_trans (Ab2 _) (st_phi ok7.2.1 fun r hr => (ok7.2.2 r hr).1)⟩)
end Go.Proofs.YtnlhbdkcgaeimaaGreat

set_option linter.unusedVariables false
set_option linter.unusedSimpArgs false
set_option maxRecDepth 100000
namespace Go.Proofs.YtnlhbdkcgaeimaaGreat
open Go Go.AV Go.M
attribute [local irreducible] OpW OpA OpS AWP FSpec ESpec GSpec OpE RetOk RetOkG RvDen Le Ev GuardIs SrcIs
end Go.Proofs.YtnlhbdkcgaeimaaGreat

set_option linter.unusedVariables false
set_option linter.unusedSimpArgs false
set_option maxRecDepth 100000
namespace Go.Proofs.YtnlhbdkcgaeimaaGreat
open Go Go.AV Go.M
attribute [local irreducible] OpW OpA OpS AWP FSpec ESpec GSpec OpE RetOk RetOkG RvDen Le Ev GuardIs SrcIs
end Go.Proofs.YtnlhbdkcgaeimaaGreat

set_option linter.unusedVariables false
set_option linter.unusedSimpArgs false
set_option maxRecDepth 100000
namespace Go.Proofs.YtnlhbdkcgaeimaaGreat
open Go Go.AV Go.M
attribute [local irreducible] OpW OpA OpS AWP FSpec ESpec GSpec OpE RetOk RetOkG RvDen Le Ev GuardIs SrcIs Int.tmod IntKind.wrap bandI
end Go.Proofs.YtnlhbdkcgaeimaaGreat

set_option linter.unusedVariables false
set_option linter.unusedSimpArgs false
set_option maxRecDepth 100000
set_option maxHeartbeats 1000000
namespace Go.Proofs.YtnlhbdkcgaeimaaGreat
open Go Go.AV Go.M
attribute [local irreducible] OpW OpA OpS AWP FSpec ESpec GSpec OpE RetOk RetOkG RvDen Le Ev GuardIs SrcIs
end Go.Proofs.YtnlhbdkcgaeimaaGreat

set_option linter.unusedVariables false
set_option linter.unusedSimpArgs false
set_option maxRecDepth 100000
set_option maxHeartbeats 1000000
namespace Go.Proofs.YtnlhbdkcgaeimaaGreat
open Go Go.AV Go.M
attribute [local irreducible] OpW OpA OpS AWP FSpec ESpec GSpec OpE RetOk RetOkG RvDen Le Ev GuardIs SrcIs
end Go.Proofs.YtnlhbdkcgaeimaaGreat

set_option linter.unusedVariables false
set_option linter.unusedSimpArgs false
namespace Go.Proofs.YtnlhbdkcgaeimaaGreat
open Go Go.Proofs Go.RowKit Go.Shelf Go.M
attribute [local go_sem] Oper.semAt_some
end Go.Proofs.YtnlhbdkcgaeimaaGreat

set_option linter.unusedVariables false
set_option linter.unusedSimpArgs false
namespace Go.Proofs.YtnlhbdkcgaeimaaGreat
open Go Go.Proofs Go.RowKit Go.Shelf Go.M
attribute [local go_sem] Oper.semAt_some
end Go.Proofs.YtnlhbdkcgaeimaaGreat

set_option linter.unusedVariables false
set_option linter.unusedSimpArgs false
set_option maxRecDepth 100000
namespace Go.Proofs.YtnlhbdkcgaeimaaGreat
open Go Go.AV Go.M
attribute [local irreducible] OpW OpA OpS AWP FSpec ESpec RetOk RvDen Le Ev GuardIs
end Go.Proofs.YtnlhbdkcgaeimaaGreat

set_option linter.unusedVariables false
set_option linter.unusedSimpArgs false
set_option maxRecDepth 100000
set_option maxHeartbeats 1000000
namespace Go.Proofs.YtnlhbdkcgaeimaaGreat
open Go Go.AV Go.M
attribute [local irreducible] OpW OpA OpS AWP FSpec ESpec GSpec OpE RetOk RetOkG RvDen Le Ev GuardIs SrcIs Int.tmod IntKind.wrap bandI
end Go.Proofs.YtnlhbdkcgaeimaaGreat

set_option linter.unusedVariables false
set_option linter.unusedSimpArgs false
set_option maxRecDepth 100000
set_option maxHeartbeats 2000000
namespace Go.M
open Go.AV
theorem told_row {l : List TTold} (h : 0 < l.length) : ∃ t, l[0]? = some t ∧ (l.map TTold.cs)[(0 : Int).toNat]? = some t.cs := by
  obtain ⟨t, ht⟩ := get_some h
  exact ⟨t, ht, by show (l.map TTold.cs)[0]? = _; rw [List.getElem?_map, ht]; rfl⟩
end Go.M
namespace Go.Proofs.YtnlhbdkcgaeimaaGreat
open Go Go.AV Go.M
attribute [local irreducible] OpW OpA OpS AWP FSpec ESpec GSpec OpE RetOk RetOkG RvDen Le Ev GuardIs SrcIs SrcE Int.tmod Int.tdiv IntKind.wrap bandI
theorem w8 (b : Nat) (code : List Int) (hcode : ByteL code) (c : TCur) (hp : c.p ≤ 800000) : GSpec Tryz.prog 99 [AV.ptr b 0] [.box b 127 (curC code c)] (fun x : TCur × TState => x.1.p ≤ c.p + 1310 ∧ x.2.size ≤ 33045 ∧ SB 100001 x.2) (fun x => [.box b 127 (curC code x.1)]) (fun x => AV.agg x.2.cs) := by
 refine I2 Tryz.func99 rfl Tryz.ntmps99 rfl ?_
 refine A3 (A2 ?_)
 refine F3 rfl rfl rfl rfl Tryz.zeroValue30 rfl ?_
 intro b2
 refine A5 (A3 (A2 ?_))
 refine A4 rfl rfl rfl rfl rfl ?_
 refine G0 [1] rfl rfl rfl rfl Tryz.call196 rfl (Ac1 _ _ hcode _ (by omega)) (A7 (A0 rfl) C0) rfl ?_
 intro x5 ok5
 obtain ⟨hp5, hso, ⟨hf5, hl5⟩, hs5⟩ := ok5
 obtain ⟨q1, q2, q3, q4, q5⟩ := T6 hs5
 refine F3 rfl rfl rfl rfl Tryz.zeroValue30 rfl ?_
 intro b3
 refine D5 0 rfl rfl rfl (A0 rfl) (A0 rfl) (E8 _) rfl D3 rfl ?_
 refine A5 (A3 (A3 ?_))
 refine K7 (by first | (simp only [TState.ow, TState.ocs, pick, O9, O4, N9, N7, O0, List.nil_append, P0, P1, List.append_nil, N8, List.take_zero, O1, List.drop_zero]; exact rfl) | exact rfl) ?_
 refine A2 ?_
 refine A4 rfl rfl rfl rfl rfl ?_
 refine G0 [1] rfl rfl rfl rfl Tryz.call100 rfl (N3 _ _ hcode _ _ (by omega) (by omega)) (A7 (A0 rfl) (A7 B5 C0)) rfl ?_
 intro x7 ok7
 refine A5 (D7 (A3 (A2 ?_)))
 refine A1 rfl rfl rfl (M5 rfl (A0 rfl) B5) ?_
 refine B2 rfl rfl rfl rfl rfl ?_
 refine A5 ?_
 refine C8 (A0 rfl) ?_ ?_
 ·intro h8
  have k8 := N6 h8; try simp only [A6] at k8
  refine A2 ?_
  refine A4 rfl rfl rfl rfl rfl ?_
  refine A1 rfl rfl rfl (M3 rfl I0 B9 Tryz.zeroValue3 rfl rfl rfl rfl (E7 B5 (K8 _ _) (E7 B5 (K8 _ _) (E7 B5 (K8 _ _) (E7 B5 (K8 _ _) I6)))) rfl rfl) ?_
  refine G0 [0] rfl rfl rfl rfl Tryz.call129 rfl (m0 _ _ hcode _ ([(0), (1), (100000), (100001)] : List Int) (by decide) (by omega)) (A7 (A0 rfl) (A7 (A0 rfl) C0)) rfl ?_
  intro x12 ok12
  refine A1 rfl rfl rfl (B6 0 rfl D4 rfl B9 (A0 rfl) rfl) ?_
  refine L0 1 rfl rfl rfl (A0 rfl) (A0 rfl) (K8 _ _) rfl B9 rfl ?_
  refine A5 (A3 ?_)
  refine K7 (by first | (simp only [TState.ow, TState.ocs, pick, O9, O4, N9, N7, O0, List.nil_append, P0, P1, List.append_nil, N8, List.take_zero, O1, List.drop_zero]; exact rfl) | exact rfl) ?_
  refine A2 ?_
  refine A1 rfl rfl rfl (E4 1 rfl (A0 rfl) rfl F1 D3 rfl) ?_
  refine AB6 (X7 [2, 2] 42 rfl rfl (i3 (H2 L8 (H2 L8 (H2 (N2 (G6 (i := 0) rfl) I9) (H2 (N2 (G6 (i := 1) rfl) I9) T9))))) (R8 0 rfl rfl S8)) ?_
  refine D5 2 rfl rfl rfl (A0 rfl) (A0 rfl) (E8 _) rfl D3 rfl ?_
  refine A5 ?_
  refine C6 ?_
  (refine M8 [0] ((x12.1, ⟨x12.2, x5.2.1.Cells, x5.2.1.Held, x5.2.1.Told⟩)) ?_ rfl (by first | (dsimp only; rfl) | rfl) (Q4 rfl (K3 (ys := _) 2 rfl rfl F1 D3 (by first | rfl | (dsimp only [TState.cs]; rw [List.map_append]; rfl)))); (have hsz9 : sizeL TCell.size x5.2.1.Cells + sizeL THeld.size x5.2.1.Held + x5.2.1.Told.length ≤ 33044 := hs5; first | exact ⟨by dsimp only; omega, by show sizeL TCell.size _ + sizeL THeld.size _ + _ ≤ 33045; dsimp only; omega, ⟨⟨by dsimp only; omega, by dsimp only; omega⟩, hl5⟩⟩ | exact ⟨by dsimp only; omega, by show sizeL TCell.size _ + sizeL THeld.size _ + _ ≤ 33045; dsimp only; rw [J9]; simp only [B7, C1]; omega, ⟨⟨by dsimp only; omega, by dsimp only; omega⟩, hl5⟩⟩ | exact ⟨by dsimp only; omega, by show sizeL TCell.size _ + sizeL THeld.size _ + _ ≤ 33045; dsimp only; exact Nat.le_trans hsz9 (by decide), ⟨⟨by have h9 := ok12.2; simp at h9; dsimp only; omega, by have h9 := ok12.2; simp at h9; dsimp only; omega⟩, hl5⟩⟩ | exact ⟨by dsimp only; omega, by show sizeL TCell.size _ + sizeL THeld.size _ + _ ≤ 33045; (rw [hh0, M1] at hsz9; dsimp only; rw [M1]; exact Nat.le_trans hsz9 (by decide)), ⟨⟨by dsimp only; omega, by dsimp only; omega⟩, fun k hk => by (rcases List.mem_cons.1 hk with rfl | hk; (exact hl5 h0 (by rw [hh0]; exact List.mem_cons_self)); (exact hl5 k (by rw [hh0]; exact List.mem_cons_of_mem _ hk)))⟩⟩))
 ·intro h8
  have k8 := N5 h8; try simp only [A6] at k8
  refine A3 (A2 ?_)
  refine A1 rfl rfl rfl (M5 rfl (A0 rfl) B5) ?_
  refine B2 rfl rfl rfl rfl rfl ?_
  refine A5 ?_
  refine C8 (A0 rfl) ?_ ?_
  ·intro h14
   have k14 := N6 h14; try simp only [A6] at k14
   refine A3 (A2 ?_)
   refine A1 rfl rfl rfl (B6 2 rfl D4 rfl I1 (A0 rfl) rfl) ?_
   refine A1 rfl rfl rfl (B4 1 rfl (A0 rfl) rfl M0 rfl) ?_
   refine A1 rfl rfl rfl (U5 2 rfl E5 (A0 rfl) rfl) ?_
   refine A1 rfl rfl rfl (O5 rfl (A0 rfl) B5) ?_
   refine A5 ?_
   refine C8 (A0 rfl) ?_ ?_
   ·intro h19
    have k19 := of_decide_eq_true h19; try simp only [A6] at k19
    obtain ⟨h0, hs0, hh0⟩ : ∃ h0 hs0, x5.2.1.Held = h0 :: hs0 := by (cases hm : x5.2.1.Held with | nil => (rw [hm] at h19; simp at h19) | cons y q => exact ⟨y, q, rfl⟩)
    have hA : ([] : List (List AV)).length = (0 : Int).toNat := rfl
    rw [show x5.2.1.Held.map THeld.cs = [] ++ h0.cs :: hs0.map THeld.cs from by rw [hh0]; rfl]
    refine AWP.le (K1 [1, 1] rfl) ?_
    refine W5 _ [(0, false), (1, false), (2, false), (3, false), (4, true)] (by kernel_rfl) (by kernel_rfl) rfl (c0 2) ?_
    refine I7 rfl rfl rfl (fun ext => B6 2 rfl D4 rfl I1 (A0 rfl) rfl) ?_
    refine I7 rfl rfl rfl (fun ext => B4 0 rfl (A0 rfl) rfl M0 rfl) ?_
    refine I7 rfl rfl rfl (fun ext => C4 rfl (A0 rfl)) ?_
    refine I7 rfl rfl rfl (fun ext => M3 rfl I0 B9 Tryz.zeroValue3 rfl rfl rfl rfl (E7 B5 (K8 _ _) (E7 B5 (K8 _ _) (E7 B5 (K8 _ _) I6))) rfl rfl) ?_
    refine V9 rfl rfl rfl (AC1 [2] rfl Tryz.call129 rfl (m0 _ _ hcode _ ([(0), (1), (100)] : List Int) (by decide) (by omega)) (A7 (A0 rfl) (A7 (A0 rfl) C0)) rfl) (fun a _ => (by first | exact G7 rfl | exact G7 (List.append_assoc _ _ _) | exact K9)) ?_
    intro x24 ok24
    refine s7 ?_
    refine A1 rfl rfl rfl (V8 1 rfl E5 E1 (A0 rfl) rfl B5 (by omega) (by simp)) ?_
    refine A1 rfl rfl rfl (AF2 1 rfl E9 rfl B9 (A0 rfl) rfl rfl (AA1 hA)) ?_
    refine AO6 1 rfl rfl rfl (A0 rfl) (A0 rfl) (K8 _ _) rfl B9 hA rfl ?_
    refine A5 (A3 ?_)
    refine K7 (by first | (simp only [TState.ow, TState.ocs, pick, O9, O4, N9, N7, O0, List.nil_append, P0, P1, List.append_nil, N8, List.take_zero, O1, List.drop_zero]; exact rfl) | exact rfl) ?_
    refine A2 ?_
    refine A1 rfl rfl rfl (E4 0 rfl (A0 rfl) rfl F1 D3 rfl) ?_
    refine AB6 (X7 [1, 1] 42 rfl rfl (i3 (H2 L8 (H2 L8 (H2 (N2 (G6 (i := 0) rfl) I9) (H2 (N2 (G6 (i := 1) rfl) I9) T9))))) (R8 2 rfl rfl S8)) ?_
    refine D5 1 rfl rfl rfl (A0 rfl) (A0 rfl) (E8 _) rfl D3 rfl ?_
    refine A5 ?_
    refine C6 ?_
    (refine M8 [2] ((x24.1, ⟨x5.2.1.Floor, x5.2.1.Cells, ⟨h0.Txn, x24.2, h0.Lead, h0.Reads, h0.Writes⟩ :: hs0, x5.2.1.Told⟩)) ?_ rfl (by first | (dsimp only; rfl) | rfl) (Q4 rfl (K3 (ys := _) 1 rfl rfl F1 D3 (by first | rfl | (dsimp only [TState.cs]; rw [List.map_append]; rfl)))); (have hsz9 : sizeL TCell.size x5.2.1.Cells + sizeL THeld.size x5.2.1.Held + x5.2.1.Told.length ≤ 33044 := hs5; first | exact ⟨by dsimp only; omega, by show sizeL TCell.size _ + sizeL THeld.size _ + _ ≤ 33045; dsimp only; omega, ⟨⟨by dsimp only; omega, by dsimp only; omega⟩, hl5⟩⟩ | exact ⟨by dsimp only; omega, by show sizeL TCell.size _ + sizeL THeld.size _ + _ ≤ 33045; dsimp only; rw [J9]; simp only [B7, C1]; omega, ⟨⟨by dsimp only; omega, by dsimp only; omega⟩, hl5⟩⟩ | exact ⟨by dsimp only; omega, by show sizeL TCell.size _ + sizeL THeld.size _ + _ ≤ 33045; dsimp only; exact Nat.le_trans hsz9 (by decide), ⟨⟨by have h9 := ok12.2; simp at h9; dsimp only; omega, by have h9 := ok12.2; simp at h9; dsimp only; omega⟩, hl5⟩⟩ | exact ⟨by dsimp only; omega, by show sizeL TCell.size _ + sizeL THeld.size _ + _ ≤ 33045; (rw [hh0, M1] at hsz9; dsimp only; rw [M1]; exact Nat.le_trans hsz9 (by decide)), ⟨⟨by dsimp only; omega, by dsimp only; omega⟩, fun k hk => by (rcases List.mem_cons.1 hk with rfl | hk; (exact hl5 h0 (by rw [hh0]; exact List.mem_cons_self)); (exact hl5 k (by rw [hh0]; exact List.mem_cons_of_mem _ hk)))⟩⟩))
   ·intro h19
    have k19 := of_decide_eq_false h19; try simp only [A6] at k19
    refine D1 (A3 ?_)
    refine K7 (by first | (simp only [TState.ow, TState.ocs, pick, O9, O4, N9, N7, O0, List.nil_append, P0, P1, List.append_nil, N8, List.take_zero, O1, List.drop_zero]; exact rfl) | exact rfl) ?_
    refine A2 ?_
    refine A1 rfl rfl rfl (E4 1 rfl (A0 rfl) rfl F1 D3 rfl) ?_
    refine AB6 (X7 [2, 2] 42 rfl rfl (i3 (H2 L8 (H2 L8 (H2 (N2 (G6 (i := 0) rfl) I9) (H2 (N2 (G6 (i := 1) rfl) I9) T9))))) (R8 0 rfl rfl S8)) ?_
    refine D5 2 rfl rfl rfl (A0 rfl) (A0 rfl) (E8 _) rfl D3 rfl ?_
    refine A5 ?_
    refine C6 ?_
    (refine M8 [0] ((x7.1, x5.2.1)) ?_ rfl (by first | (dsimp only; rfl) | rfl) (Q4 rfl (K3 (ys := _) 2 rfl rfl F1 D3 (by first | rfl | (dsimp only [TState.cs]; rw [List.map_append]; rfl)))); (have hsz9 : sizeL TCell.size x5.2.1.Cells + sizeL THeld.size x5.2.1.Held + x5.2.1.Told.length ≤ 33044 := hs5; first | exact ⟨by dsimp only; omega, by show sizeL TCell.size _ + sizeL THeld.size _ + _ ≤ 33045; dsimp only; omega, ⟨⟨by dsimp only; omega, by dsimp only; omega⟩, hl5⟩⟩ | exact ⟨by dsimp only; omega, by show sizeL TCell.size _ + sizeL THeld.size _ + _ ≤ 33045; dsimp only; rw [J9]; simp only [B7, C1]; omega, ⟨⟨by dsimp only; omega, by dsimp only; omega⟩, hl5⟩⟩ | exact ⟨by dsimp only; omega, by show sizeL TCell.size _ + sizeL THeld.size _ + _ ≤ 33045; dsimp only; exact Nat.le_trans hsz9 (by decide), ⟨⟨by have h9 := ok12.2; simp at h9; dsimp only; omega, by have h9 := ok12.2; simp at h9; dsimp only; omega⟩, hl5⟩⟩ | exact ⟨by dsimp only; omega, by show sizeL TCell.size _ + sizeL THeld.size _ + _ ≤ 33045; (rw [hh0, M1] at hsz9; dsimp only; rw [M1]; exact Nat.le_trans hsz9 (by decide)), ⟨⟨by dsimp only; omega, by dsimp only; omega⟩, fun k hk => by (rcases List.mem_cons.1 hk with rfl | hk; (exact hl5 h0 (by rw [hh0]; exact List.mem_cons_self)); (exact hl5 k (by rw [hh0]; exact List.mem_cons_of_mem _ hk)))⟩⟩))
  ·intro h14
   have k14 := N5 h14; try simp only [A6] at k14
   refine A3 (A2 ?_)
   refine A1 rfl rfl rfl (M5 rfl (A0 rfl) B5) ?_
   refine B2 rfl rfl rfl rfl rfl ?_
   refine A5 ?_
   refine C8 (A0 rfl) ?_ ?_
   ·intro h27
    have k27 := N6 h27; try simp only [A6] at k27
    refine A3 (A2 ?_)
    refine A1 rfl rfl rfl (B6 3 rfl D4 rfl P2 (A0 rfl) rfl) ?_
    refine A1 rfl rfl rfl (B4 1 rfl (A0 rfl) rfl T0 rfl) ?_
    refine A1 rfl rfl rfl (U5 3 rfl H8 (A0 rfl) rfl) ?_
    refine A1 rfl rfl rfl (O5 rfl (A0 rfl) B5) ?_
    refine A5 ?_
    refine C8 (A0 rfl) ?_ ?_
    ·intro h32
     have k32 := of_decide_eq_true h32; try simp only [A6] at k32
     obtain ⟨t0, ht0, htrow⟩ := told_row (l := x5.2.1.Told) (by simpa using h32)
     refine d2 7 (by kernel_rfl) (by kernel_rfl) rfl ?_
     refine C2 rfl rfl (B6 3 rfl D4 rfl P2 (A0 rfl) rfl) ?_
     refine C2 rfl rfl (B4 1 rfl (A0 rfl) rfl T0 rfl) ?_
     refine C2 rfl rfl (B6 3 rfl D4 rfl P2 (A0 rfl) rfl) ?_
     refine C2 rfl rfl (B4 1 rfl (A0 rfl) rfl T0 rfl) ?_
     refine C2 rfl rfl (V8 3 rfl H8 K6 (A0 rfl) rfl B5 (by omega) (by have h9 := (List.getElem?_eq_some_iff.1 ht0).1; first | omega | (simp only [A6]; omega))) ?_
     refine C2 rfl rfl (k0 3 rfl (A0 rfl) rfl Y4 K6 htrow (by decide)) ?_
     refine C2 rfl rfl (M3 rfl H8 K6 Tryz.zeroValue39 rfl rfl rfl rfl (E7 (A0 rfl) (E8 _) I6) rfl rfl) ?_
     refine Q9 ?_
     refine M9 (by' := 24) 3 rfl rfl rfl rfl H8 Tryz.type39 rfl rfl rfl rfl rfl rfl (A0 rfl) (A0 rfl) rfl (by first | omega | (simp only [A6, B0, B7, C1, B3, szR] at *; omega)) ?_
     intro v40_1
     refine A1 rfl rfl rfl (B6 3 rfl D4 rfl P2 (A0 rfl) rfl) ?_
     refine W4 3 rfl fun one_v40_1 => ?_
     refine L0 1 rfl rfl rfl (A0 rfl) (A0 rfl) (V5 one_v40_1) rfl P2 rfl ?_
     refine A5 (A3 ?_)
     refine K7 (by first | (simp only [TState.ow, TState.ocs, pick, O9, O4, N9, N7, O0, List.nil_append, P0, P1, List.append_nil, N8, List.take_zero, O1, List.drop_zero]; exact rfl) | exact rfl) ?_
     refine A2 ?_
     refine A1 rfl rfl rfl (E4 1 rfl (A0 rfl) rfl F1 D3 rfl) ?_
     refine AB6 (X7 [2, 2] 42 rfl rfl (i3 (H2 L8 (H2 L8 (H2 (N2 (G6 (i := 0) rfl) I9) (H2 (N2 (G6 (i := 1) rfl) I9) T9))))) (R8 0 rfl rfl S8)) ?_
     refine D5 2 rfl rfl rfl (A0 rfl) (A0 rfl) (E8 _) rfl D3 rfl ?_
     refine A5 ?_
     refine C6 ?_
     (refine M8 [0] ((x7.1, ⟨x5.2.1.Floor, x5.2.1.Cells, x5.2.1.Held, x5.2.1.Told ++ [t0]⟩)) ?_ rfl (by first | (dsimp only; rfl) | rfl) (Q4 rfl (K3 (ys := _) 2 rfl rfl F1 D3 (by first | rfl | (dsimp only [TState.cs]; rw [List.map_append]; rfl)))); (have hsz9 : sizeL TCell.size x5.2.1.Cells + sizeL THeld.size x5.2.1.Held + x5.2.1.Told.length ≤ 33044 := hs5; first | exact ⟨by dsimp only; omega, by show sizeL TCell.size _ + sizeL THeld.size _ + _ ≤ 33045; dsimp only; omega, ⟨⟨by dsimp only; omega, by dsimp only; omega⟩, hl5⟩⟩ | exact ⟨by dsimp only; omega, by show sizeL TCell.size _ + sizeL THeld.size _ + _ ≤ 33045; dsimp only; rw [J9]; simp only [B7, C1]; omega, ⟨⟨by dsimp only; omega, by dsimp only; omega⟩, hl5⟩⟩ | exact ⟨by dsimp only; omega, by show sizeL TCell.size _ + sizeL THeld.size _ + _ ≤ 33045; dsimp only; exact Nat.le_trans hsz9 (by decide), ⟨⟨by have h9 := ok12.2; simp at h9; dsimp only; omega, by have h9 := ok12.2; simp at h9; dsimp only; omega⟩, hl5⟩⟩ | exact ⟨by dsimp only; omega, by show sizeL TCell.size _ + sizeL THeld.size _ + _ ≤ 33045; (rw [hh0, M1] at hsz9; dsimp only; rw [M1]; exact Nat.le_trans hsz9 (by decide)), ⟨⟨by dsimp only; omega, by dsimp only; omega⟩, fun k hk => by (rcases List.mem_cons.1 hk with rfl | hk; (exact hl5 h0 (by rw [hh0]; exact List.mem_cons_self)); (exact hl5 k (by rw [hh0]; exact List.mem_cons_of_mem _ hk)))⟩⟩))
    ·intro h32
     have k32 := of_decide_eq_false h32; try simp only [A6] at k32
     refine D1 (A3 ?_)
     refine K7 (by first | (simp only [TState.ow, TState.ocs, pick, O9, O4, N9, N7, O0, List.nil_append, P0, P1, List.append_nil, N8, List.take_zero, O1, List.drop_zero]; exact rfl) | exact rfl) ?_
     refine A2 ?_
     refine A1 rfl rfl rfl (E4 1 rfl (A0 rfl) rfl F1 D3 rfl) ?_
     refine AB6 (X7 [2, 2] 42 rfl rfl (i3 (H2 L8 (H2 L8 (H2 (N2 (G6 (i := 0) rfl) I9) (H2 (N2 (G6 (i := 1) rfl) I9) T9))))) (R8 0 rfl rfl S8)) ?_
     refine D5 2 rfl rfl rfl (A0 rfl) (A0 rfl) (E8 _) rfl D3 rfl ?_
     refine A5 ?_
     refine C6 ?_
     (refine M8 [0] ((x7.1, x5.2.1)) ?_ rfl (by first | (dsimp only; rfl) | rfl) (Q4 rfl (K3 (ys := _) 2 rfl rfl F1 D3 (by first | rfl | (dsimp only [TState.cs]; rw [List.map_append]; rfl)))); (have hsz9 : sizeL TCell.size x5.2.1.Cells + sizeL THeld.size x5.2.1.Held + x5.2.1.Told.length ≤ 33044 := hs5; first | exact ⟨by dsimp only; omega, by show sizeL TCell.size _ + sizeL THeld.size _ + _ ≤ 33045; dsimp only; omega, ⟨⟨by dsimp only; omega, by dsimp only; omega⟩, hl5⟩⟩ | exact ⟨by dsimp only; omega, by show sizeL TCell.size _ + sizeL THeld.size _ + _ ≤ 33045; dsimp only; rw [J9]; simp only [B7, C1]; omega, ⟨⟨by dsimp only; omega, by dsimp only; omega⟩, hl5⟩⟩ | exact ⟨by dsimp only; omega, by show sizeL TCell.size _ + sizeL THeld.size _ + _ ≤ 33045; dsimp only; exact Nat.le_trans hsz9 (by decide), ⟨⟨by have h9 := ok12.2; simp at h9; dsimp only; omega, by have h9 := ok12.2; simp at h9; dsimp only; omega⟩, hl5⟩⟩ | exact ⟨by dsimp only; omega, by show sizeL TCell.size _ + sizeL THeld.size _ + _ ≤ 33045; (rw [hh0, M1] at hsz9; dsimp only; rw [M1]; exact Nat.le_trans hsz9 (by decide)), ⟨⟨by dsimp only; omega, by dsimp only; omega⟩, fun k hk => by (rcases List.mem_cons.1 hk with rfl | hk; (exact hl5 h0 (by rw [hh0]; exact List.mem_cons_self)); (exact hl5 k (by rw [hh0]; exact List.mem_cons_of_mem _ hk)))⟩⟩))
   ·intro h27
    have k27 := N5 h27; try simp only [A6] at k27
    refine D1 (A3 ?_)
    refine K7 (by first | (simp only [TState.ow, TState.ocs, pick, O9, O4, N9, N7, O0, List.nil_append, P0, P1, List.append_nil, N8, List.take_zero, O1, List.drop_zero]; exact rfl) | exact rfl) ?_
    refine A2 ?_
    refine A1 rfl rfl rfl (E4 1 rfl (A0 rfl) rfl F1 D3 rfl) ?_
    refine AB6 (X7 [2, 2] 42 rfl rfl (i3 (H2 L8 (H2 L8 (H2 (N2 (G6 (i := 0) rfl) I9) (H2 (N2 (G6 (i := 1) rfl) I9) T9))))) (R8 0 rfl rfl S8)) ?_
    refine D5 2 rfl rfl rfl (A0 rfl) (A0 rfl) (E8 _) rfl D3 rfl ?_
    refine A5 ?_
    refine C6 ?_
    (refine M8 [0] ((x7.1, x5.2.1)) ?_ rfl (by first | (dsimp only; rfl) | rfl) (Q4 rfl (K3 (ys := _) 2 rfl rfl F1 D3 (by first | rfl | (dsimp only [TState.cs]; rw [List.map_append]; rfl)))); (have hsz9 : sizeL TCell.size x5.2.1.Cells + sizeL THeld.size x5.2.1.Held + x5.2.1.Told.length ≤ 33044 := hs5; first | exact ⟨by dsimp only; omega, by show sizeL TCell.size _ + sizeL THeld.size _ + _ ≤ 33045; dsimp only; omega, ⟨⟨by dsimp only; omega, by dsimp only; omega⟩, hl5⟩⟩ | exact ⟨by dsimp only; omega, by show sizeL TCell.size _ + sizeL THeld.size _ + _ ≤ 33045; dsimp only; rw [J9]; simp only [B7, C1]; omega, ⟨⟨by dsimp only; omega, by dsimp only; omega⟩, hl5⟩⟩ | exact ⟨by dsimp only; omega, by show sizeL TCell.size _ + sizeL THeld.size _ + _ ≤ 33045; dsimp only; exact Nat.le_trans hsz9 (by decide), ⟨⟨by have h9 := ok12.2; simp at h9; dsimp only; omega, by have h9 := ok12.2; simp at h9; dsimp only; omega⟩, hl5⟩⟩ | exact ⟨by dsimp only; omega, by show sizeL TCell.size _ + sizeL THeld.size _ + _ ≤ 33045; (rw [hh0, M1] at hsz9; dsimp only; rw [M1]; exact Nat.le_trans hsz9 (by decide)), ⟨⟨by dsimp only; omega, by dsimp only; omega⟩, fun k hk => by (rcases List.mem_cons.1 hk with rfl | hk; (exact hl5 h0 (by rw [hh0]; exact List.mem_cons_self)); (exact hl5 k (by rw [hh0]; exact List.mem_cons_of_mem _ hk)))⟩⟩))
end Go.Proofs.YtnlhbdkcgaeimaaGreat

set_option linter.unusedVariables false
set_option linter.unusedSimpArgs false
namespace Go.AV
open Go.ChangeShapes Go.WideShapes Go.ChangeAt Go.RowKit

def heapR (w : World) : RHeap := fun b => w.heap[b]?
theorem heapR_le (w : World) : RLe (heapR w) w := fun _ _ h => h
theorem Ak4 {w : World} {a : Addr} {v : Value} (h : w.cell? a = some v) : rcell (heapR w) a = some v := h

def Opens (P : Program) (t : TypeId) (α : Type) (enc : α → List AV) (ok : α → Prop) : Prop :=
  ∀ (H : Type) (en : TypeId × Value → H) (w : World) (base : Nat) (spare : Nat → Bool) (held : Bool) (fuel : Nat) (cs : List Value) (x : DataW H × List MemPlace),
    DataW.trod en P w base spare held fuel t cs = some x → ∃ a : α, ok a ∧ DenC (heapR w) cs (enc a)
theorem AN3 {R : RHeap} {v : Value} {x : AV} (h : x.den R v) (h1 : v.oneCell' = true) : DenC R [v] [x] :=
  ⟨rfl, fun i u y hu hy => by
    cases i with
    | zero => simp at hu hy; subst hu; subst hy; exact ⟨h, h1⟩
    | succ i => simp at hu⟩
section
variable {P : Program} {t e : TypeId}
theorem An6 {k : IntKind} (ht : P.underlying t = some (.int k)) : Opens P t Int (fun n => [AV.ik k n]) (fun n => (Lit.int k n).wf = true) := fun H en w base spare held fuel cs x h => by
  obtain ⟨n, rfl, _, hw⟩ := DataW.trod_int ht h
  exact ⟨n, hw, AN3 rfl rfl⟩
theorem Ah0 {α : Type} {p : Nat → α → Prop} : ∀ n, (∀ i, i < n → ∃ a, p i a) → ∃ l : List α, l.length = n ∧ ∀ (i : Nat) (a : α), l[i]? = some a → p i a
  | 0, _ => ⟨[], rfl, fun i a h => by simp at h⟩
  | n + 1, h => by
    obtain ⟨l, h1, h2⟩ := Ah0 n fun i hi => h i (by omega)
    obtain ⟨a, ha⟩ := h n (by omega)
    refine ⟨l ++ [a], by simp [h1], fun i b hb => ?_⟩
    by_cases hi : i < l.length
    · rw [List.getElem?_append_left hi] at hb; exact h2 i b hb
    · rw [List.getElem?_append_right (by omega)] at hb
      have hin : i = n := by
        have := (List.getElem?_eq_some_iff.1 hb).1
        simp at this; omega
      subst hin
      rw [h1] at hb; simp at hb; subst hb; exact ha
theorem Af0 {α : Type} {enc : α → List AV} {ok : α → Prop} {sz : Nat} (ht : P.underlying t = some (.slice e)) (hc : P.cellsOf e = sz) (h : Opens P e α enc ok) (hl : ∀ a, (enc a).length = sz) :
    Opens P t (List α) (fun l => [AV.list sz (l.map enc)]) (fun l => ∀ a ∈ l, ok a) := fun H en w base spare held fuel cs x hx => by
  rcases DataW.trod_slice ht hx with ⟨rfl, _⟩ | ⟨a, len, cap, elems, rest, n, _, rfl, _, _, hlc, hcm, hel, hi, _, _⟩
  · exact ⟨[], by simp, AN3 ⟨none, 0, rfl, Nat.le_refl _, Nat.zero_le _, by simp, fun h => absurd rfl h⟩ rfl⟩
  · obtain ⟨l, h1, h2⟩ := Ah0 (p := fun i b => ok b ∧ ∃ cs', w.cells? base (a.add (i * sz)) sz = some cs' ∧ DenC (heapR w) cs' (enc b)) len fun i hil => by
      have := hi i hil
      rw [hc, List.getElem?_eq_getElem (by omega)] at this
      obtain ⟨cs', hcs, htr⟩ := Option.bind_eq_some_iff.1 this
      obtain ⟨b, hb, hd⟩ := h H en w base spare held n cs' _ htr
      exact ⟨b, hb, cs', hcs, hd⟩
    refine ⟨l, fun b hb => ?_, AN3 ⟨some a, cap, by rw [A6, h1], by rw [A6, h1]; exact hlc, hcm, fun ec he => ?_, fun _ => ⟨a, rfl, fun j y hy => ?_⟩⟩ rfl⟩
    · obtain ⟨i, hib⟩ := List.getElem?_of_mem hb
      exact (h2 i b hib).1
    · obtain ⟨b, _, rfl⟩ := List.mem_map.1 he
      exact hl b
    · have hun : ∀ ec ∈ l.map enc, ec.length = sz := fun ec he => by
        obtain ⟨b, _, rfl⟩ := List.mem_map.1 he
        exact hl b
      have hjl : j < l.length * sz := by
        have := (List.getElem?_eq_some_iff.1 hy).1
        rwa [Z4 hun, A6] at this
      have hsz : 0 < sz := by
        rcases Nat.eq_zero_or_pos sz with h0 | h0
        · subst h0; omega
        · exact h0
      have hij : j / sz < l.length := Nat.div_lt_of_lt_mul (by rw [Nat.mul_comm]; exact hjl)
      have hkm : j % sz < sz := Nat.mod_lt _ hsz
      have hjj : j / sz * sz + j % sz = j := by rw [Nat.mul_comm]; exact Nat.div_add_mod j sz
      have hb : l[j / sz]? = some l[j / sz] := List.getElem?_eq_getElem hij
      obtain ⟨_, cs', hcs, hd⟩ := h2 _ _ hb
      obtain ⟨_, hcl, hat⟩ := World.cells?_some hcs
      have hk : (enc l[j / sz])[j % sz]? = some ((enc l[j / sz])[j % sz]'(by rw [hl]; exact hkm)) := List.getElem?_eq_getElem _
      have hyk := Z3 hun (i := j / sz) (e := enc l[j / sz]) (by rw [List.getElem?_map, hb]; rfl) hk
      rw [hjj, hy] at hyk
      injection hyk with hyk
      have hv : cs'[j % sz]? = some (cs'[j % sz]'(by rw [hcl]; exact hkm)) := List.getElem?_eq_getElem _
      have hcell := hat (j % sz) hkm
      rw [hv, z7, hjj] at hcell
      refine ⟨_, Ak4 hcell, ?_⟩
      have := hd.2 _ _ _ hv hk
      rw [hyk]; exact this
theorem Ah1 {H : Type} {en : TypeId × Value → H} {W : World} {base : Nat} {spare : Nat → Bool} {held : Bool} {α : Type} {enc : α → AV} {ok : α → Prop} {v : Value} {d : DataW H} {p : List MemPlace}
    (h : Opens P t α (fun a => [enc a]) ok) (h1 : v.cells = #[v]) (hd : DataW.Trod en P W base spare held t v d p) : ∃ a, ok a ∧ (enc a).den (heapR W) v := by
  obtain ⟨fuel, hf⟩ := hd
  rw [h1] at hf
  obtain ⟨a, h2, h3⟩ := h H en W base spare held fuel _ _ hf
  exact ⟨a, h2, (h3.2 0 v _ rfl rfl).1⟩
theorem An7 {f : FuncId} {xs : List AV} {b : Bool} {W : World} {vs : List Value} (h : FSpec P f xs (AV.bool b)) (hd : DenV (heapR W) vs xs) :
    Calls P f vs.toArray W fun e w' => e = .returned (.bool b) ∧ Below W.heap.size W w' :=
  (h (heapR W) W vs (heapR_le W) hd).mono fun e w' ⟨v, R', h1, h2, _, _, h5⟩ => ⟨by rw [h1]; exact congrArg Ending.returned h2, h5⟩
end
end Go.AV

set_option linter.unusedVariables false
set_option linter.unusedSimpArgs false
namespace Go.AV
section
variable {P : Program} {G : Nat → Prop} {n : Nat} {own : List Own} {o : Oper} {E : EnvF}
end
end Go.AV

set_option linter.unusedVariables false
set_option linter.unusedSimpArgs false
namespace Go.AV
open Go.RowKit (Below)
section
variable {P : Program} {G : Nat → Prop} {n : Nat} {own : List Own} {o : Oper} {E : EnvF}
end
end Go.AV

set_option linter.unusedVariables false
set_option linter.unusedSimpArgs false
set_option maxRecDepth 100000
set_option maxHeartbeats 2000000
namespace Go.Proofs.YtnlhbdkcgaeimaaGreat
open Go Go.AV Go.M
attribute [local irreducible] OpW OpA OpS AWP FSpec ESpec GSpec OpE RetOk RetOkG RvDen Le Ev GuardIs SrcIs SrcE Int.tmod Int.tdiv IntKind.wrap bandI
theorem AJ1 (code : List Int) (hcode : ByteL code) : GSpec Tryz.prog 33 [bytesI code] [] (fun x : TState × Str × Int => x.1.size ≤ 33045 ∧ x.2.1.length ≤ 64) (fun x => []) (fun x => AV.tup [AV.agg x.1.cs, AV.str x.2.1, AV.int x.2.2]) := by
 refine I2 Tryz.func33 rfl Tryz.ntmps33 rfl ?_
 refine A3 (A2 ?_)
 refine F3 rfl rfl rfl rfl Tryz.zeroValue30 rfl ?_
 intro b2
 refine A1 rfl rfl rfl (B8 rfl (Q3 (l := []) rfl)) ?_
 refine A1 rfl rfl rfl (B8 rfl B5) ?_
 refine A5 (A3 (A2 ?_))
 refine A4 rfl rfl rfl rfl rfl ?_
 refine A1 rfl rfl rfl (Q2 (places := #[(0, 1), (1, 1), (2, 1)]) rfl J2 Tryz.zeroValue127 (fun w => by kernel_rfl) rfl (E7 (A0 rfl) (W1 _ _) I6) rfl) ?_
 refine J6 rfl rfl rfl rfl (A0 rfl) ?_
 intro b8
 refine B2 rfl rfl rfl rfl rfl ?_
 refine A5 (A3 (A2 ?_))
 refine A4 rfl rfl rfl rfl rfl ?_
 refine G0 [0] rfl rfl rfl rfl Tryz.call99 rfl (w8 _ _ hcode ⟨0, 0⟩ (by decide)) (A7 (A0 rfl) C0) rfl ?_
 intro x10 ok10
 have hp10 : x10.1.p ≤ 1310 := by (have h9 := ok10.1; dsimp only at h9; omega)
 refine A4 rfl rfl rfl rfl rfl ?_
 refine G0 [0] rfl rfl rfl rfl Tryz.call116 rfl (AP7 _ _ hcode _ (by omega)) (A7 (A0 rfl) C0) rfl ?_
 intro x12 ok12
 refine A4 rfl rfl rfl rfl rfl ?_
 refine G0 [0] rfl rfl rfl rfl Tryz.call100 rfl (N3 _ _ hcode _ _ (by omega) (by omega)) (A7 (A0 rfl) (A7 B5 C0)) rfl ?_
 intro x14 ok14
 refine A4 rfl rfl rfl rfl rfl ?_
 refine G0 [0] rfl rfl rfl rfl Tryz.call100 rfl (N3 _ _ hcode _ _ (by omega) (by omega)) (A7 (A0 rfl) (A7 B5 C0)) rfl ?_
 intro x16 ok16
 have h16q : 0 ≤ Int.tdiv x16.2 19 ∧ Int.tdiv x16.2 19 ≤ 2 := by (rw [Int.tdiv_eq_ediv_of_nonneg (by omega)]; omega)
 have h16w : IntKind.i64.wrap (Int.tdiv x16.2 19) = Int.tdiv x16.2 19 := w3 (by omega)
 refine A1 rfl rfl rfl (AX9 rfl (A0 rfl) B5 (by first | omega | (simp only [A6, B0, B7, C1, B3, szR] at *; omega))) ?_
 refine A1 rfl rfl rfl (N1 rfl (A0 rfl) (A0 rfl) (by rw [h16w]; omega)) ?_
 refine D5 1 rfl rfl rfl (A0 rfl) (A0 rfl) (E8 _) rfl D3 rfl ?_
 refine B2 rfl rfl rfl rfl rfl ?_
 refine B2 rfl rfl rfl rfl rfl ?_
 refine A5 ?_
 refine C6 ?_
 (refine M8 [] ((x10.2, x12.2, _)) ?_ rfl (by first | (dsimp only; rfl) | rfl) (Y0 rfl (by decide) (E6 (K3 (ys := _) 1 rfl rfl F1 D3 rfl) (E6 (C3 rfl (by rfl)) (E6 (C3 rfl (by rfl)) I8)))); exact ⟨ok10.2.1, ok12.2⟩)
end Go.Proofs.YtnlhbdkcgaeimaaGreat

set_option linter.unusedVariables false
set_option linter.unusedSimpArgs false
set_option maxRecDepth 100000
set_option maxHeartbeats 2000000
namespace Go.Proofs.YtnlhbdkcgaeimaaGreat
open Go Go.AV Go.M
attribute [local irreducible] OpW OpA OpS AWP FSpec ESpec GSpec OpE RetOk RetOkG RvDen Le Ev GuardIs SrcIs SrcE Int.tmod Int.tdiv IntKind.wrap bandI
end Go.Proofs.YtnlhbdkcgaeimaaGreat

set_option linter.unusedVariables false
set_option linter.unusedSimpArgs false
set_option maxRecDepth 100000
set_option maxHeartbeats 2000000
namespace Go.Proofs.YtnlhbdkcgaeimaaGreat
open Go Go.AV Go.M
attribute [local irreducible] OpW OpA OpS AWP FSpec ESpec GSpec OpE RetOk RetOkG RvDen Le Ev GuardIs SrcIs SrcE Int.tmod Int.tdiv IntKind.wrap bandI
end Go.Proofs.YtnlhbdkcgaeimaaGreat

set_option linter.unusedVariables false
set_option linter.unusedSimpArgs false
namespace Go.M
open Go.AV
end Go.M

set_option linter.unusedVariables false
set_option linter.unusedSimpArgs false
set_option maxRecDepth 100000
set_option maxHeartbeats 1000000
namespace Go.M
open Go.AV
def mostI (a b : Int) : Int := if b < a then a else b
theorem T7 {n : Int} : isTrue n = true ↔ 0 ≤ n ∧ n ≤ 100000 := by unfold isTrue within; simp only [Bool.and_eq_true, decide_eq_true_eq]
end Go.M
namespace Go.Proofs.YtnlhbdkcgaeimaaGreat
open Go Go.AV Go.M
attribute [local irreducible] OpW OpA OpS AWP FSpec ESpec GSpec OpE RetOk RetOkG RvDen Le Ev GuardIs SrcIs SrcE Int.tmod Int.tdiv IntKind.wrap bandI
theorem Af1 (t : Int) : FSpec Tryz.prog 127 [AV.int t] (AV.tup [AV.int (if t ≤ 100000 then t else 0), AV.bool (decide (t ≤ 100000))]) := by
 refine D9 Tryz.func127 rfl Tryz.ntmps127 rfl ?_
 refine A3 (A2 ?_)
 refine A1 rfl rfl rfl (B8 rfl B5) ?_
 refine A1 rfl rfl rfl (B8 rfl F0) ?_
 refine A5 (A3 (A3 (A2 ?_)))
 refine A4 rfl rfl rfl rfl rfl ?_
 refine A1 rfl rfl rfl (O5 rfl (A0 rfl) B5) ?_
 refine A5 ?_
 refine C8 (A0 rfl) ?_ ?_
 ·intro h5
  have k5 := of_decide_eq_true h5; try simp only [A6] at k5
  rw [if_neg (by omega), decide_eq_false (by omega)]
  refine A3 (A2 ?_)
  refine A1 rfl rfl rfl (B8 rfl B5) ?_
  refine A1 rfl rfl rfl (B8 rfl F0) ?_
  refine A5 ?_
  refine C6 ?_
  exact R5 rfl (by decide) (E6 (C3 rfl (by rfl)) (E6 (C3 rfl (by rfl)) I8))
 ·intro h5
  have k5 := of_decide_eq_false h5; try simp only [A6] at k5
  rw [if_pos (by omega), decide_eq_true (by omega)]
  refine D1 (A3 (A2 ?_))
  refine A4 rfl rfl rfl rfl rfl ?_
  refine B2 rfl rfl rfl rfl rfl ?_
  refine A1 rfl rfl rfl (B8 rfl F0) ?_
  refine A5 ?_
  refine C6 ?_
  exact R5 rfl (by decide) (E6 (C3 rfl (by rfl)) (E6 (C3 rfl (by rfl)) I8))
end Go.Proofs.YtnlhbdkcgaeimaaGreat

set_option linter.unusedVariables false
set_option linter.unusedSimpArgs false
namespace Go.M
end Go.M

set_option linter.unusedVariables false
set_option linter.unusedSimpArgs false
set_option maxRecDepth 100000
namespace Go.Proofs.YtnlhbdkcgaeimaaGreat
open Go Go.AV Go.M
attribute [local irreducible] OpW OpA OpS AWP FSpec ESpec GSpec OpE RetOk RetOkG RvDen Le Ev GuardIs SrcIs
theorem Ak5 (l : List Int) (a b : Int) : FSpec Tryz.prog 138 [ints l, AV.int a, AV.int b] (AV.bool (l.all fun g => within g a b)) := by
 refine D9 Tryz.func138 rfl Tryz.ntmps138 rfl ?_
 refine S4 (t := 0) rfl fun hl => ?_
 try simp only [A6] at hl
 refine A3 (A2 ?_)
 refine A1 rfl rfl rfl (B8 rfl F0) ?_
 refine A5 (A3 (A3 (A2 ?_)))
 refine A4 rfl rfl rfl rfl rfl ?_
 refine A1 rfl rfl rfl (H3 rfl I0 (A0 rfl)) ?_
 refine A1 rfl rfl rfl (C4 rfl B5) ?_
 refine A5 (D7 ?_)
 refine J0 [(1, _), (2, _), (9, _), (10, _)] _ (fun (i : Nat) => i ≤ l.length ∧ (l.all fun g => within g a b) = ((l.drop i).all fun g => within g a b)) (fun (i : Nat) => []) (fun (i : Nat) => [(11, AV.int i)]) (fun (i : Nat) => l.length - i) (0) ?_ (J1 ⟨rfl, rfl, rfl, rfl, rfl, trivial⟩) ?_
 ·exact ⟨Nat.zero_le _, rfl⟩
 intro i hinv
 refine A3 (A2 ?_)
 refine A1 rfl rfl rfl (J8 rfl (A0 rfl) (A0 rfl)) ?_
 refine A5 (A3 ?_)
 refine C8 (A0 rfl) ?_ ?_
 ·intro h12
  have k12 := of_decide_eq_true h12; try simp only [A6] at k12
  have hlt : i < l.length := by omega
  obtain ⟨x, hx⟩ := get_some hlt
  refine D1 (A3 (D7 (A3 (A2 ?_))))
  refine A1 rfl rfl rfl (J4 rfl I0 B9 (A0 rfl) (A0 rfl) hx (by first | omega | (simp only [A6, B0, B7, C1, B3, szR] at *; omega))) ?_
  refine A1 rfl rfl rfl (L6 rfl (A0 rfl) C7 rfl) ?_
  refine B2 rfl rfl rfl rfl rfl ?_
  refine A5 (A3 (A2 ?_))
  refine A4 rfl rfl rfl rfl rfl ?_
  refine A4 rfl rfl rfl rfl rfl ?_
  refine A4 rfl rfl rfl rfl rfl ?_
  refine A1 rfl rfl rfl (D6 rfl Tryz.call137 rfl (T8 _ _ _) (A7 (A0 rfl) (A7 (A0 rfl) (A7 (A0 rfl) C0)))) ?_
  refine A1 rfl rfl rfl (I4 rfl (A0 rfl)) ?_
  refine A5 ?_
  refine C8 (A0 rfl) ?_ ?_
  ·intro h19
   refine A3 (A2 ?_)
   refine A1 rfl rfl rfl (B8 rfl F0) ?_
   refine A5 ?_
   refine C6 ?_
   exact H1 rfl (C3 rfl (by first | exact congrArg AV.bool (by rw [hinv.2, c5 hx (by simpa using h19)]) | exact congrArg AV.bool (by rw [hinv.2, X5 hge])))
  ·intro h19
   refine D1 (A2 ?_)
   refine A1 rfl rfl rfl (G5 rfl (A0 rfl) B5 (by first | omega | (simp only [A6, B0, B7, C1, B3, szR] at *; omega))) ?_
   refine A4 rfl rfl rfl rfl rfl ?_
   refine A5 ?_
   refine L2 i (i + 1) ?_ ?_ (J1 ⟨rfl, rfl, rfl, rfl, rfl, trivial⟩)
   ·exact ⟨by omega, by rw [hinv.2, j4 hx (by simpa using h19)]⟩
   ·omega
 ·intro h12
  have k12 := of_decide_eq_false h12; try simp only [A6] at k12
  have hge : l.length ≤ i := by omega
  refine H4 ?_
  refine A3 (A2 ?_)
  refine A1 rfl rfl rfl (B8 rfl F0) ?_
  refine A5 ?_
  refine C6 ?_
  exact H1 rfl (C3 rfl (by first | exact congrArg AV.bool (by rw [hinv.2, c5 hx (by simpa using h19)]) | exact congrArg AV.bool (by rw [hinv.2, X5 hge])))
end Go.Proofs.YtnlhbdkcgaeimaaGreat

set_option linter.unusedVariables false
set_option linter.unusedSimpArgs false
set_option maxRecDepth 100000
set_option maxHeartbeats 1000000
namespace Go.AV
theorem w_max3 {P : Program} {G : Nat → Prop} {n : Nat} {own : List Own} {o : Oper} {E : EnvF} {p q r : Operand} {tys : Array TypeId} {x y z : Int} {k : IntKind} (ho : o.op = .call { callee := .builtin .max, args := #[p, q, r], argTypes := tys }) (hp : Ev E p (AV.ik k x)) (hq : Ev E q (AV.ik k y)) (hr : Ev E r (AV.ik k z)) : OpW P G n own o E (AV.ik k (if z > (if y > x then y else x) then z else (if y > x then y else x))) := L5 fun R a w _ he => by
  have h1 : a.eval p = .int k x := G9 hp (by simp [ho, Op.operands, Call.operands]) he
  have h2 : a.eval q = .int k y := G9 hq (by simp [ho, Op.operands, Call.operands]) he
  have h3 : a.eval r = .int k z := G9 hr (by simp [ho, Op.operands, Call.operands]) he
  refine ⟨.int k (if z > (if y > x then y else x) then z else (if y > x then y else x)), ?_, rfl⟩
  simp only [execOp, ho, resolve, invoke, builtin, List.map_toArray, List.map_cons, List.map_nil, h1, h2, h3, Sem.run_bind, Sem.run_pure, Result.andThen_ok]
  rfl
end Go.AV
namespace Go.M
open Go.AV
def goodSpan (s : TSpan) : Bool := (decide (s.Low ≤ s.High) && decide (s.Low ≥ -10)) && decide (s.High ≤ 100010)
def goodClock (c : TClock) : Bool := within c.Off (-5) 5
def spanOf (c : TClock) (now : Int) : TSpan := ⟨now + c.Off - 5, now + c.Off + 5⟩
theorem Y8 {s : TSpan} : goodSpan s = true ↔ (s.Low ≤ s.High ∧ -10 ≤ s.Low) ∧ s.High ≤ 100010 := by unfold goodSpan; simp only [Bool.and_eq_true, decide_eq_true_eq]
theorem Z2 {c : TClock} : goodClock c = true ↔ -5 ≤ c.Off ∧ c.Off ≤ 5 := by unfold goodClock within; simp only [Bool.and_eq_true, decide_eq_true_eq]
def ifT (t : Int) : Int × Bool := (if t ≤ 100000 then t else 0, decide (t ≤ 100000))
def maxAll (m : Int) (l : List Int) : Int := l.foldl mostI m
def decT (l : List Int) (s : TSpan) : Int × Bool := if (within (l.length : Int) 1 4 && l.all isTime && goodSpan s) = true then ifT (maxAll (s.High + 1) l) else (0, false)
def tellR (s : TSpan) (t : Int) : Bool × Bool := if (goodSpan s && isTime t) = true then (decide (t < s.Low), true) else (false, false)
def spanR (c : TClock) (now : Int) : TSpan × Bool := if (goodClock c && isTrue now) = true then (spanOf c now, true) else (⟨0, 0⟩, false)
def lookR (s : TSpan) : Int × Bool := if goodSpan s = true then ifT (mostI s.High 1) else (0, false)
def leadR (s : TState) (x : TSpan) : Int × Bool := if (goodState s && goodSpan x) = true then ifT (mostI 1 (mostI (s.Floor + 1) (x.High + 10))) else (0, false)
def waitBy (c : TClock) (now t : Int) : Int := mostI 0 (t + 1 - (spanOf c now).Low)
def waitR (c : TClock) (now t : Int) : Int × Bool := if (goodClock c && isTrue now && isTrue t) = true then (if now + waitBy c now t ≤ 100000 then (waitBy c now t, true) else (0, false)) else (0, false)
def afterR (c : TClock) (now t : Int) : Int × Bool := if ((waitR c now t).2 && isTime t) = true then (now + (waitR c now t).1, true) else (0, false)
def stampR (a b c : Int) : Bool × Bool := if (isTrue a && isTrue b && isTrue c) = true then (decide (a ≤ b) && decide (b < c), true) else (false, false)
def mayR (s : TState) (k : Str) (t : Int) : Bool × Bool := ((blocksR s k t).2 && ((blocksR s k t).1.length == 0), (blocksR s k t).2)
theorem t6 (a b : Int) : a ≤ mostI a b ∧ b ≤ mostI a b ∧ (mostI a b = a ∨ mostI a b = b) := by unfold mostI; split <;> omega
theorem AW0 : ∀ {l : List Int} {m : Int}, m ≤ maxAll m l ∧ ∀ x ∈ l, x ≤ maxAll m l
  | [], m => ⟨Int.le_refl _, fun x hx => by cases hx⟩
  | y :: l, m => by
    have ih := AW0 (l := l) (m := mostI m y)
    have h := t6 m y
    show m ≤ maxAll (mostI m y) l ∧ ∀ x ∈ y :: l, x ≤ maxAll (mostI m y) l
    refine ⟨by omega, fun x hx => ?_⟩
    rcases List.mem_cons.1 hx with rfl | hx
    · have := ih.1; omega
    · exact ih.2 x hx
theorem Af2 (a b c : Int) : mostI (mostI a b) c = mostI a (mostI b c) := by unfold mostI; repeat (first | omega | split)
theorem AK9 : ∀ {l : List Int} {a b : Int}, maxAll (mostI a b) l = mostI a (maxAll b l)
  | [], _, _ => rfl
  | y :: l, a, b => by
    show maxAll (mostI (mostI a b) y) l = mostI a (maxAll (mostI b y) l)
    rw [Af2]; exact AK9
end Go.M
namespace Go.Proofs.YtnlhbdkcgaeimaaGreat
open Go Go.AV Go.M
attribute [local irreducible] OpW OpA OpS AWP FSpec ESpec GSpec OpE RetOk RetOkG RvDen Le Ev GuardIs SrcIs SrcE Int.tmod Int.tdiv IntKind.wrap bandI
theorem i7 (s : TSpan) : FSpec Tryz.prog 135 [AV.agg s.cs] (AV.bool (goodSpan s)) := by
 refine D9 Tryz.func135 rfl Tryz.ntmps135 rfl ?_
 refine A3 (A2 ?_)
 refine J6 rfl rfl rfl rfl (A0 rfl) ?_
 intro b1
 refine A1 rfl rfl rfl (B8 rfl F0) ?_
 refine A5 (A3 (A2 ?_))
 refine A1 rfl rfl rfl (B6 0 rfl J5 rfl B9 (A0 rfl) rfl) ?_
 refine A1 rfl rfl rfl (B4 0 rfl (A0 rfl) rfl C7 rfl) ?_
 refine A1 rfl rfl rfl (B6 1 rfl J5 rfl B9 (A0 rfl) rfl) ?_
 refine A1 rfl rfl rfl (B4 0 rfl (A0 rfl) rfl C7 rfl) ?_
 refine A1 rfl rfl rfl (S0 rfl (A0 rfl) (A0 rfl)) ?_
 refine A4 rfl rfl rfl rfl rfl ?_
 refine A9 rfl rfl (B1 rfl rfl rfl) (fun hc => B6 0 rfl J5 rfl B9 (A0 rfl) rfl) ?_
 refine A9 rfl rfl (B1 rfl rfl rfl) (fun hc => B4 0 rfl (A8 rfl hc) rfl C7 rfl) ?_
 refine A9 rfl rfl (B1 rfl rfl rfl) (fun hc => X4 rfl (A8 rfl hc) B5) ?_
 refine A1 rfl rfl rfl (G1 rfl (A0 rfl) (E3 rfl)) ?_
 refine A4 rfl rfl rfl rfl rfl ?_
 refine A9 rfl rfl (B1 rfl rfl rfl) (fun hc => B6 1 rfl J5 rfl B9 (A0 rfl) rfl) ?_
 refine A9 rfl rfl (B1 rfl rfl rfl) (fun hc => B4 0 rfl (A8 rfl hc) rfl C7 rfl) ?_
 refine A9 rfl rfl (B1 rfl rfl rfl) (fun hc => S0 rfl (A8 rfl hc) B5) ?_
 refine A1 rfl rfl rfl (G1 rfl (A0 rfl) (E3 rfl)) ?_
 refine B2 rfl rfl rfl rfl rfl ?_
 refine A5 ?_
 refine C6 ?_
 exact H1 rfl (C3 rfl (by rfl))
theorem AL0 (s : TSpan) : FSpec Tryz.prog 139 [AV.agg s.cs] (AV.bool (goodSpan s)) := by
 refine D9 Tryz.func139 rfl Tryz.ntmps139 rfl ?_
 refine A3 (A2 ?_)
 refine J6 rfl rfl rfl rfl (A0 rfl) ?_
 intro b1
 refine A1 rfl rfl rfl (B8 rfl F0) ?_
 refine A5 (A3 (A2 ?_))
 refine A1 rfl rfl rfl (B6 0 rfl J5 rfl B9 (A0 rfl) rfl) ?_
 refine A1 rfl rfl rfl (B4 0 rfl (A0 rfl) rfl C7 rfl) ?_
 refine A1 rfl rfl rfl (B6 1 rfl J5 rfl B9 (A0 rfl) rfl) ?_
 refine A1 rfl rfl rfl (B4 0 rfl (A0 rfl) rfl C7 rfl) ?_
 refine A1 rfl rfl rfl (S0 rfl (A0 rfl) (A0 rfl)) ?_
 refine A4 rfl rfl rfl rfl rfl ?_
 refine A9 rfl rfl (B1 rfl rfl rfl) (fun hc => B6 0 rfl J5 rfl B9 (A0 rfl) rfl) ?_
 refine A9 rfl rfl (B1 rfl rfl rfl) (fun hc => B4 0 rfl (A8 rfl hc) rfl C7 rfl) ?_
 refine A9 rfl rfl (B1 rfl rfl rfl) (fun hc => X4 rfl (A8 rfl hc) B5) ?_
 refine A1 rfl rfl rfl (G1 rfl (A0 rfl) (E3 rfl)) ?_
 refine A4 rfl rfl rfl rfl rfl ?_
 refine A9 rfl rfl (B1 rfl rfl rfl) (fun hc => B6 1 rfl J5 rfl B9 (A0 rfl) rfl) ?_
 refine A9 rfl rfl (B1 rfl rfl rfl) (fun hc => B4 0 rfl (A8 rfl hc) rfl C7 rfl) ?_
 refine A9 rfl rfl (B1 rfl rfl rfl) (fun hc => S0 rfl (A8 rfl hc) B5) ?_
 refine A1 rfl rfl rfl (G1 rfl (A0 rfl) (E3 rfl)) ?_
 refine B2 rfl rfl rfl rfl rfl ?_
 refine A5 ?_
 refine C6 ?_
 exact H1 rfl (C3 rfl (by rfl))
theorem AA9 (s : TClock) : FSpec Tryz.prog 143 [AV.agg s.cs] (AV.bool (goodClock s)) := by
 refine D9 Tryz.func143 rfl Tryz.ntmps143 rfl ?_
 refine A3 (A2 ?_)
 refine J6 rfl rfl rfl rfl (A0 rfl) ?_
 intro b1
 refine A1 rfl rfl rfl (B8 rfl F0) ?_
 refine A5 (A3 (A2 ?_))
 refine A1 rfl rfl rfl (B6 0 rfl T4 rfl B9 (A0 rfl) rfl) ?_
 refine A1 rfl rfl rfl (B4 0 rfl (A0 rfl) rfl C7 rfl) ?_
 refine A1 rfl rfl rfl (D6 rfl Tryz.call94 rfl (W8 _ _ _) (A7 (A0 rfl) (A7 B5 (A7 B5 C0)))) ?_
 refine B2 rfl rfl rfl rfl rfl ?_
 refine A5 ?_
 refine C6 ?_
 exact H1 rfl (C3 rfl (by rfl))
theorem Ac2 (s : TClock) : FSpec Tryz.prog 225 [AV.agg s.cs] (AV.bool (goodClock s)) := by
 refine D9 Tryz.func225 rfl Tryz.ntmps225 rfl ?_
 refine A3 (A2 ?_)
 refine J6 rfl rfl rfl rfl (A0 rfl) ?_
 intro b1
 refine A1 rfl rfl rfl (B8 rfl F0) ?_
 refine A5 (A3 (A2 ?_))
 refine A1 rfl rfl rfl (B6 0 rfl T4 rfl B9 (A0 rfl) rfl) ?_
 refine A1 rfl rfl rfl (B4 0 rfl (A0 rfl) rfl C7 rfl) ?_
 refine A1 rfl rfl rfl (D6 rfl Tryz.call137 rfl (T8 _ _ _) (A7 (A0 rfl) (A7 B5 (A7 B5 C0)))) ?_
 refine B2 rfl rfl rfl rfl rfl ?_
 refine A5 ?_
 refine C6 ?_
 exact H1 rfl (C3 rfl (by rfl))
theorem AW1 (c : TClock) (now : Int) (hc : goodClock c = true) (hn : isTrue now = true) : FSpec Tryz.prog 144 [AV.agg c.cs, AV.int now] (AV.agg (spanOf c now).cs) := by
 have h1 := Z2.1 hc
 have h2 := T7.1 hn
 refine D9 Tryz.func144 rfl Tryz.ntmps144 rfl ?_
 refine A3 (A2 ?_)
 refine J6 rfl rfl rfl rfl (A0 rfl) ?_
 intro b2
 refine F3 rfl rfl rfl rfl Tryz.zeroValue82 rfl ?_
 intro b4
 refine A5 (A3 (A2 ?_))
 refine A4 rfl rfl rfl rfl rfl ?_
 refine A1 rfl rfl rfl (B6 0 rfl T4 rfl B9 (A0 rfl) rfl) ?_
 refine A1 rfl rfl rfl (B4 1 rfl (A0 rfl) rfl C7 rfl) ?_
 refine A1 rfl rfl rfl (G5 rfl (A0 rfl) (A0 rfl) (by first | omega | (simp only [A6, B0, B7, C1, B3, szR] at *; omega))) ?_
 refine A1 rfl rfl rfl (N1 rfl (A0 rfl) B5 (by first | omega | (simp only [A6, B0, B7, C1, B3, szR] at *; omega))) ?_
 refine A4 rfl rfl rfl rfl rfl ?_
 refine A1 rfl rfl rfl (B6 0 rfl T4 rfl B9 (A0 rfl) rfl) ?_
 refine A1 rfl rfl rfl (B4 1 rfl (A0 rfl) rfl C7 rfl) ?_
 refine A1 rfl rfl rfl (G5 rfl (A0 rfl) (A0 rfl) (by first | omega | (simp only [A6, B0, B7, C1, B3, szR] at *; omega))) ?_
 refine A1 rfl rfl rfl (G5 rfl (A0 rfl) B5 (by first | omega | (simp only [A6, B0, B7, C1, B3, szR] at *; omega))) ?_
 refine A1 rfl rfl rfl (Q2 (places := #[(0, 1), (1, 1)]) rfl J5 Tryz.zeroValue82 (fun w => by kernel_rfl) rfl (E7 (A0 rfl) (K8 _ _) (E7 (A0 rfl) (K8 _ _) I6)) rfl) ?_
 refine D5 0 rfl rfl rfl (A0 rfl) (A0 rfl) (E8 _) rfl F8 rfl ?_
 refine A5 ?_
 refine C6 ?_
 exact H1 rfl (K3 (ys := _) 0 rfl rfl I5 F8 rfl)
theorem An8 (c : TClock) (now : Int) (hc : goodClock c = true) (hn : isTrue now = true) : FSpec Tryz.prog 226 [AV.agg c.cs, AV.int now] (AV.agg (spanOf c now).cs) := by
 have h1 := Z2.1 hc
 have h2 := T7.1 hn
 refine D9 Tryz.func226 rfl Tryz.ntmps226 rfl ?_
 refine A3 (A2 ?_)
 refine J6 rfl rfl rfl rfl (A0 rfl) ?_
 intro b2
 refine F3 rfl rfl rfl rfl Tryz.zeroValue82 rfl ?_
 intro b4
 refine A5 (A3 (A2 ?_))
 refine A4 rfl rfl rfl rfl rfl ?_
 refine A1 rfl rfl rfl (B6 0 rfl T4 rfl B9 (A0 rfl) rfl) ?_
 refine A1 rfl rfl rfl (B4 1 rfl (A0 rfl) rfl C7 rfl) ?_
 refine A1 rfl rfl rfl (G5 rfl (A0 rfl) (A0 rfl) (by first | omega | (simp only [A6, B0, B7, C1, B3, szR] at *; omega))) ?_
 refine A1 rfl rfl rfl (N1 rfl (A0 rfl) B5 (by first | omega | (simp only [A6, B0, B7, C1, B3, szR] at *; omega))) ?_
 refine A4 rfl rfl rfl rfl rfl ?_
 refine A1 rfl rfl rfl (B6 0 rfl T4 rfl B9 (A0 rfl) rfl) ?_
 refine A1 rfl rfl rfl (B4 1 rfl (A0 rfl) rfl C7 rfl) ?_
 refine A1 rfl rfl rfl (G5 rfl (A0 rfl) (A0 rfl) (by first | omega | (simp only [A6, B0, B7, C1, B3, szR] at *; omega))) ?_
 refine A1 rfl rfl rfl (G5 rfl (A0 rfl) B5 (by first | omega | (simp only [A6, B0, B7, C1, B3, szR] at *; omega))) ?_
 refine A1 rfl rfl rfl (Q2 (places := #[(0, 1), (1, 1)]) rfl J5 Tryz.zeroValue82 (fun w => by kernel_rfl) rfl (E7 (A0 rfl) (K8 _ _) (E7 (A0 rfl) (K8 _ _) I6)) rfl) ?_
 refine D5 0 rfl rfl rfl (A0 rfl) (A0 rfl) (E8 _) rfl F8 rfl ?_
 refine A5 ?_
 refine C6 ?_
 exact H1 rfl (K3 (ys := _) 0 rfl rfl I5 F8 rfl)
theorem AN4 (t : Int) : FSpec Tryz.prog 127 [AV.int t] (AV.tup [AV.int (ifT t).1, AV.bool (ifT t).2]) := Af1 t
theorem Ac3 (s : TSpan) (t : Int) : FSpec Tryz.prog 48 [AV.agg s.cs, AV.int t] (AV.tup [AV.bool (tellR s t).1, AV.bool (tellR s t).2]) := by
 refine D9 Tryz.func48 rfl Tryz.ntmps48 rfl ?_
 refine A3 (A2 ?_)
 refine J6 rfl rfl rfl rfl (A0 rfl) ?_
 intro b2
 refine A1 rfl rfl rfl (B8 rfl F0) ?_
 refine A1 rfl rfl rfl (B8 rfl F0) ?_
 refine A5 (A3 (A3 (A2 ?_)))
 refine A1 rfl rfl rfl (E4 0 rfl (A0 rfl) rfl I5 F8 rfl) ?_
 refine A1 rfl rfl rfl (D6 rfl Tryz.call135 rfl (i7 _) (A7 (A0 rfl) C0)) ?_
 refine A1 rfl rfl rfl (I4 rfl (A0 rfl)) ?_
 refine A4 rfl rfl rfl rfl rfl ?_
 refine A9 rfl rfl (C9 rfl rfl rfl) (fun hc => C4 rfl (A0 rfl)) ?_
 refine A9 rfl rfl (C9 rfl rfl rfl) (fun hc => D6 rfl Tryz.call134 rfl (W9 _) (A7 (A8 rfl hc) C0)) ?_
 refine A9 rfl rfl (C9 rfl rfl rfl) (fun hc => I4 rfl (A8 rfl hc)) ?_
 refine A1 rfl rfl rfl (N4 rfl (A0 rfl) (E3 rfl)) ?_
 refine A5 ?_
 refine C8 (A0 rfl) ?_ ?_
 ·intro h13
  have he : tellR s t = (false, false) := by (unfold tellR; rw [if_neg (by (cases h1 : goodSpan s <;> simp_all))])
  rw [he]
  refine A3 (A2 ?_)
  refine A1 rfl rfl rfl (B8 rfl F0) ?_
  refine A1 rfl rfl rfl (B8 rfl F0) ?_
  refine A5 ?_
  refine C6 ?_
  exact R5 rfl (by decide) (E6 (C3 rfl (by rfl)) (E6 (C3 rfl (by rfl)) I8))
 ·intro h13
  have he : tellR s t = (decide (t < s.Low), true) := by (unfold tellR; rw [if_pos (by (cases h1 : goodSpan s <;> simp_all))])
  rw [he]
  refine D1 (A3 (A2 ?_))
  refine A4 rfl rfl rfl rfl rfl ?_
  refine A1 rfl rfl rfl (B6 0 rfl J5 rfl B9 (A0 rfl) rfl) ?_
  refine A1 rfl rfl rfl (B4 0 rfl (A0 rfl) rfl C7 rfl) ?_
  refine A1 rfl rfl rfl (J8 rfl (A0 rfl) (A0 rfl)) ?_
  refine B2 rfl rfl rfl rfl rfl ?_
  refine A1 rfl rfl rfl (B8 rfl F0) ?_
  refine A5 ?_
  refine C6 ?_
  exact R5 rfl (by decide) (E6 (C3 rfl (by rfl)) (E6 (C3 rfl (by rfl)) I8))
theorem o5 (c : TClock) (now : Int) : FSpec Tryz.prog 51 [AV.agg c.cs, AV.int now] (AV.tup [AV.agg (spanR c now).1.cs, AV.bool (spanR c now).2]) := by
 refine D9 Tryz.func51 rfl Tryz.ntmps51 rfl ?_
 refine A3 (A2 ?_)
 refine J6 rfl rfl rfl rfl (A0 rfl) ?_
 intro b2
 refine F3 rfl rfl rfl rfl Tryz.zeroValue82 rfl ?_
 intro b4
 refine A1 rfl rfl rfl (B8 rfl F0) ?_
 refine A5 (A3 (A3 (A2 ?_)))
 refine A1 rfl rfl rfl (E4 1 rfl (A0 rfl) rfl L4 H6 rfl) ?_
 refine A1 rfl rfl rfl (D6 rfl Tryz.call143 rfl (AA9 _) (A7 (A0 rfl) C0)) ?_
 refine A1 rfl rfl rfl (I4 rfl (A0 rfl)) ?_
 refine A4 rfl rfl rfl rfl rfl ?_
 refine A9 rfl rfl (C9 rfl rfl rfl) (fun hc => C4 rfl (A0 rfl)) ?_
 refine A9 rfl rfl (C9 rfl rfl rfl) (fun hc => D6 rfl Tryz.call90 rfl (Y2 _) (A7 (A8 rfl hc) C0)) ?_
 refine A9 rfl rfl (C9 rfl rfl rfl) (fun hc => I4 rfl (A8 rfl hc)) ?_
 refine A1 rfl rfl rfl (N4 rfl (A0 rfl) (E3 rfl)) ?_
 refine A5 ?_
 refine C8 (A0 rfl) ?_ ?_
 ·intro h13
  have he : spanR c now = (⟨0, 0⟩, false) := by (unfold spanR; rw [if_neg (by (cases h1 : goodClock c <;> simp_all))])
  rw [he]
  refine A3 (A2 ?_)
  refine A1 rfl rfl rfl (Q2 (places := #[(0, 1), (1, 1)]) rfl J5 Tryz.zeroValue82 (fun w => by kernel_rfl) rfl I6 rfl) ?_
  refine D5 0 rfl rfl rfl (A0 rfl) (A0 rfl) (E8 _) rfl F8 rfl ?_
  refine A1 rfl rfl rfl (B8 rfl F0) ?_
  refine A5 ?_
  refine C6 ?_
  exact R5 rfl (by decide) (E6 (K3 (ys := _) 0 rfl rfl I5 F8 rfl) (E6 (C3 rfl (by rfl)) I8))
 ·intro h13
  have hg : goodClock c = true ∧ M.isTrue now = true := by (cases h1 : goodClock c <;> cases h2 : M.isTrue now <;> simp_all)
  have he : spanR c now = (spanOf c now, true) := by (unfold spanR; rw [if_pos (by rw [hg.1, hg.2]; rfl)])
  rw [he]
  refine D1 (A3 (A2 ?_))
  refine A1 rfl rfl rfl (E4 1 rfl (A0 rfl) rfl L4 H6 rfl) ?_
  refine A4 rfl rfl rfl rfl rfl ?_
  refine A1 rfl rfl rfl (D6 rfl Tryz.call144 rfl (AW1 c now hg.1 hg.2) (A7 (A0 rfl) (A7 (A0 rfl) C0))) ?_
  refine D5 0 rfl rfl rfl (A0 rfl) (A0 rfl) (E8 _) rfl F8 rfl ?_
  refine A1 rfl rfl rfl (B8 rfl F0) ?_
  refine A5 ?_
  refine C6 ?_
  exact R5 rfl (by decide) (E6 (K3 (ys := _) 0 rfl rfl I5 F8 rfl) (E6 (C3 rfl (by rfl)) I8))
theorem AE2 (s : TSpan) : FSpec Tryz.prog 52 [AV.agg s.cs] (AV.tup [AV.int (lookR s).1, AV.bool (lookR s).2]) := by
 refine D9 Tryz.func52 rfl Tryz.ntmps52 rfl ?_
 refine A3 (A2 ?_)
 refine J6 rfl rfl rfl rfl (A0 rfl) ?_
 intro b1
 refine A1 rfl rfl rfl (B8 rfl B5) ?_
 refine A1 rfl rfl rfl (B8 rfl F0) ?_
 refine A5 (A3 (A3 (A2 ?_)))
 refine A1 rfl rfl rfl (E4 0 rfl (A0 rfl) rfl I5 F8 rfl) ?_
 refine A1 rfl rfl rfl (D6 rfl Tryz.call135 rfl (i7 _) (A7 (A0 rfl) C0)) ?_
 refine A1 rfl rfl rfl (I4 rfl (A0 rfl)) ?_
 refine A5 ?_
 refine C8 (A0 rfl) ?_ ?_
 ·intro h6
  have he : lookR s = (0, false) := by (unfold lookR; rw [if_neg (by simp_all)])
  rw [he]
  refine A3 (A2 ?_)
  refine A1 rfl rfl rfl (B8 rfl B5) ?_
  refine A1 rfl rfl rfl (B8 rfl F0) ?_
  refine A5 ?_
  refine C6 ?_
  exact R5 rfl (by decide) (E6 (C3 rfl (by first | rfl | rw [← hm])) (E6 (C3 rfl (by first | rfl | rw [← hm])) I8))
 ·intro h6
  have he : lookR s = ifT (mostI s.High 1) := by (unfold lookR; rw [if_pos (by simp_all)])
  have hm : (if 1 > s.High then 1 else s.High) = mostI s.High 1 := by (unfold mostI; split <;> split <;> omega)
  rw [he]
  refine D1 (A3 (A2 ?_))
  refine A1 rfl rfl rfl (B6 1 rfl J5 rfl B9 (A0 rfl) rfl) ?_
  refine A1 rfl rfl rfl (B4 0 rfl (A0 rfl) rfl C7 rfl) ?_
  refine A1 rfl rfl rfl (AY0 rfl (A0 rfl) B5) ?_
  refine A1 rfl rfl rfl (D6 rfl Tryz.call127 rfl (AN4 _) (A7 (A0 rfl) C0)) ?_
  refine A1 rfl rfl rfl (D0 rfl (A0 rfl) rfl) ?_
  refine A1 rfl rfl rfl (D0 rfl (A0 rfl) rfl) ?_
  refine B2 rfl rfl rfl rfl rfl ?_
  refine B2 rfl rfl rfl rfl rfl ?_
  refine A5 ?_
  refine C6 ?_
  exact R5 rfl (by decide) (E6 (C3 rfl (by first | rfl | rw [← hm])) (E6 (C3 rfl (by first | rfl | rw [← hm])) I8))
theorem AB0 (a b c : Int) : FSpec Tryz.prog 55 [AV.int a, AV.int b, AV.int c] (AV.tup [AV.bool (stampR a b c).1, AV.bool (stampR a b c).2]) := by
 refine D9 Tryz.func55 rfl Tryz.ntmps55 rfl ?_
 refine A3 (A2 ?_)
 refine A1 rfl rfl rfl (B8 rfl F0) ?_
 refine A1 rfl rfl rfl (B8 rfl F0) ?_
 refine A5 (A3 (A3 (A2 ?_)))
 refine A4 rfl rfl rfl rfl rfl ?_
 refine A1 rfl rfl rfl (D6 rfl Tryz.call90 rfl (Y2 _) (A7 (A0 rfl) C0)) ?_
 refine A1 rfl rfl rfl (I4 rfl (A0 rfl)) ?_
 refine A4 rfl rfl rfl rfl rfl ?_
 refine A9 rfl rfl (C9 rfl rfl rfl) (fun hc => C4 rfl (A0 rfl)) ?_
 refine A9 rfl rfl (C9 rfl rfl rfl) (fun hc => D6 rfl Tryz.call90 rfl (Y2 _) (A7 (A8 rfl hc) C0)) ?_
 refine A9 rfl rfl (C9 rfl rfl rfl) (fun hc => I4 rfl (A8 rfl hc)) ?_
 refine A1 rfl rfl rfl (N4 rfl (A0 rfl) (E3 rfl)) ?_
 refine A4 rfl rfl rfl rfl rfl ?_
 refine A9 rfl rfl (C9 rfl rfl rfl) (fun hc => C4 rfl (A0 rfl)) ?_
 refine A9 rfl rfl (C9 rfl rfl rfl) (fun hc => D6 rfl Tryz.call90 rfl (Y2 _) (A7 (A8 rfl hc) C0)) ?_
 refine A9 rfl rfl (C9 rfl rfl rfl) (fun hc => I4 rfl (A8 rfl hc)) ?_
 refine A1 rfl rfl rfl (N4 rfl (A0 rfl) (E3 rfl)) ?_
 refine A5 ?_
 refine C8 (A0 rfl) ?_ ?_
 ·intro h20
  have he : stampR a b c = (false, false) := by (unfold stampR; rw [if_neg (by (cases h1 : M.isTrue a <;> cases h2 : M.isTrue b <;> simp_all))])
  rw [he]
  refine A3 (A2 ?_)
  refine A1 rfl rfl rfl (B8 rfl F0) ?_
  refine A1 rfl rfl rfl (B8 rfl F0) ?_
  refine A5 ?_
  refine C6 ?_
  exact R5 rfl (by decide) (E6 (C3 rfl (by rfl)) (E6 (C3 rfl (by rfl)) I8))
 ·intro h20
  have he : stampR a b c = (decide (a ≤ b) && decide (b < c), true) := by (unfold stampR; rw [if_pos (by (cases h1 : M.isTrue a <;> cases h2 : M.isTrue b <;> simp_all))])
  rw [he]
  refine D1 (A3 (A2 ?_))
  refine A4 rfl rfl rfl rfl rfl ?_
  refine A4 rfl rfl rfl rfl rfl ?_
  refine A1 rfl rfl rfl (S0 rfl (A0 rfl) (A0 rfl)) ?_
  refine A4 rfl rfl rfl rfl rfl ?_
  refine A9 rfl rfl (B1 rfl rfl rfl) (fun hc => C4 rfl (A0 rfl)) ?_
  refine A9 rfl rfl (B1 rfl rfl rfl) (fun hc => C4 rfl (A0 rfl)) ?_
  refine A9 rfl rfl (B1 rfl rfl rfl) (fun hc => J8 rfl (A8 rfl hc) (A8 rfl hc)) ?_
  refine A1 rfl rfl rfl (G1 rfl (A0 rfl) (E3 rfl)) ?_
  refine B2 rfl rfl rfl rfl rfl ?_
  refine A1 rfl rfl rfl (B8 rfl F0) ?_
  refine A5 ?_
  refine C6 ?_
  exact R5 rfl (by decide) (E6 (C3 rfl (by rfl)) (E6 (C3 rfl (by rfl)) I8))
end Go.Proofs.YtnlhbdkcgaeimaaGreat
