/- Texts of the claim, part 8. -/
import Derived.ProofKit
import Derived.OpenShut
import Derived.ShutString
import Derived.ChangeOld
import Derived.Sort.Grow
import Derived.Lib.LaidTab
import Derived.Lib.ItoaNum
import Derived.Lib.Split
import Derived.Lib.SplitLaws
import Derived.Lib.ConvBytes
import Derived.WideLaws
import Derived.SizedLaws
import Derived.Test.YtoaoicnnimjbeaaGreatZShares7

set_option linter.unusedVariables false
set_option linter.unusedSimpArgs false
set_option maxRecDepth 100000
set_option maxHeartbeats 2000000
namespace Go.Proofs.YtoaoicnnimjbeaaGreat
open Go Go.AV Go.M
attribute [local irreducible] OpW OpA OpS AWP FSpec ESpec GSpec OpE RetOk RetOkG RvDen Le Ev GuardIs SrcIs SrcE Int.tmod Int.tdiv IntKind.wrap bandI
theorem Aq7 (s : TState) (y : Value × Value) (hs : s.size ≤ 1048576) : GSpec Tryz.prog 145 [AV.agg (TState.ocs s y)] (TState.ow s y) (fun _ : Value × Value => True) (fun x => TState.ow s y ++ TState.ow s x) (fun x => AV.agg (TState.ocs s x)) := by
 obtain ⟨hs1, hs2, hs3, hs4, hs5⟩ := X0 hs
 refine H3 Tryz.func145 rfl Tryz.ntmps145 rfl ?_
 refine A3 (A2 ?_)
 refine N1 rfl rfl rfl rfl (A0 rfl) ?_
 intro b1
 refine F5 rfl rfl rfl rfl Tryz.zeroValue53 rfl ?_
 intro b2
 refine A4 (A3 ?_)
 refine Q2 _ 11 (.pure 0 (.pure 1 (.pure 2 (.pure 3 (.pure 4 (.pure 6 (.pure 7 (.e2 5 (.e2 8 (.pure 9 (.e1 10 .nil)) 10 (.e1 8 (.pure 9 .nil))) 10 (.e1 5 (.e1 8 (.pure 9 .nil))))))))))) (by kernel_rfl) (by kernel_rfl) rfl i6 ?_
 refine D4 rfl rfl rfl (fun ext => B1 0 rfl C4 rfl B5 (A0 rfl) rfl) ?_
 refine D4 rfl rfl rfl (fun ext => B0 1 rfl (A0 rfl) rfl C6 rfl) ?_
 refine D4 rfl rfl rfl (fun ext => B1 1 rfl C4 rfl P6 (A0 rfl) rfl) ?_
 refine D4 rfl rfl rfl (fun ext => B0 1 rfl (A0 rfl) rfl S1 rfl) ?_
 refine D4 rfl rfl rfl (fun ext => D7 rfl Tryz.call182 rfl (AZ2 s.Cells (by omega)) (A6 (A0 rfl) C0)) ?_
 refine D4 rfl rfl rfl (fun ext => B1 3 rfl C4 rfl O7 (A0 rfl) rfl) ?_
 refine D4 rfl rfl rfl (fun ext => B0 1 rfl (A0 rfl) rfl T0 rfl) ?_
 refine AD3 ?_ ?_
 ·refine S6 rfl rfl rfl (Z6 rfl I8 M1) (fun a _ => (by first | exact E1 rfl | exact E1 (List.append_assoc _ _ _) | exact H6)) ?_
  intro v11 _
  refine AD3 ?_ ?_
  ·refine S6 rfl rfl rfl (i9 4 (fun _ => rfl) (AI9 (by' := 24) 4 rfl I8 Tryz.type132 rfl rfl rfl rfl rfl rfl (A0 rfl) (Ab4 3 rfl (A0 rfl)) rfl (by simp only [N4, A8]; omega))) (fun a _ => (by first | exact E1 rfl | exact E1 (List.append_assoc _ _ _) | exact H6)) ?_
   intro v14_1 hone_v14_1
   have one_v14_1 := hone_v14_1.2
   refine D4 rfl rfl rfl (fun ext => N5 (places := #[(0, 1), (1, 1), (2, 1), (3, 1)]) rfl C4 Tryz.zeroValue53 (fun w => by kernel_rfl) rfl (D0 (A0 rfl) (L8 _ _) (D0 (A0 rfl) (O9 _ _) (D0 (A0 rfl) (U2 one_v14_1) G9))) rfl) ?_
   refine T9 ?_
   refine S6 rfl rfl rfl (X4 rfl Tryz.zeroValue53 rfl) (fun a _ => (by first | exact E1 rfl | exact E1 (List.append_assoc _ _ _) | exact H6)) ?_
   intro b3 _
   refine W1 ?_
   refine D2 5 rfl rfl rfl (A0 rfl) (A0 rfl) (D6 _) rfl C5 rfl ?_
   refine A4 (A3 (A3 (A2 ?_)))
   refine A1 rfl (B1 2 rfl C4 rfl G8 (A0 rfl) rfl) ?_
   refine A1 rfl (B0 1 rfl (A0 rfl) rfl M5 rfl) ?_
   refine A1 rfl (W4 2 rfl E4 (A0 rfl) rfl) ?_
   refine A1 rfl (B8 rfl B4) ?_
   refine A4 (C7 ?_)
   refine W5 130 5 ?_
   refine AWP.le (F8 [6, 0] rfl) ?_
   refine P3 [(2, _), (3, _), (17, _), (18, _)] _ (fun (i : Nat) (v : Value) => i ≤ s.Held.length) (fun (i : Nat) (v : Value) => [.box b3 53 [AV.int s.Floor, AV.list 2 (s.Cells.map TCell.cs), AV.is v, AV.is v14_1], .arr v 130 5 ((s.Held.take i).map THeld.cs)]) (fun (i : Nat) (v : Value) => [(19, AV.int i)]) (fun (i : Nat) (v : Value) => s.Held.length - i) (0) ((Value.slice none 0 0)) ?_ (O8 (by rfl) ⟨rfl, rfl, rfl, rfl, rfl, trivial⟩) ?_
   ·exact Nat.zero_le _
   intro i v hinv
   refine A3 (A2 ?_)
   refine A1 rfl (J8 rfl (A0 rfl) (A0 rfl)) ?_
   refine A4 (A3 ?_)
   refine B9 (A0 rfl) ?_ ?_
   ·intro h20
    have k20 := of_decide_eq_true h20; try simp only [A8] at k20
    have hlt : i < s.Held.length := by omega
    obtain ⟨h, hx⟩ := get_some hlt
    obtain ⟨g1, g2, g3, g4, g5⟩ := Y1 hs2 hx
    have hrow : (s.Held.map THeld.cs)[((i : Nat) : Int).toNat]? = some h.cs := by (rw [Int.toNat_natCast, List.getElem?_map, hx]; rfl)
    refine C3 (A3 (C7 (A3 (A2 ?_))))
    refine A1 rfl (U7 4 rfl E4 D5 (A0 rfl) rfl (A0 rfl) (by omega) (by first | omega | (simp only [A8]; omega))) ?_
    refine A1 rfl (c0 4 rfl (A0 rfl) rfl K3 D5 hrow (by decide)) ?_
    refine F5 rfl rfl rfl rfl Tryz.zeroValue130 rfl ?_
    intro b5
    refine D2 0 rfl rfl rfl (A0 rfl) (A0 rfl) (D6 _) rfl D5 rfl ?_
    refine A4 ?_
    refine S9 5 (by kernel_rfl) (by kernel_rfl) rfl ?_
    refine B2 rfl rfl (B1 2 rfl C4 rfl G8 (A0 rfl) rfl) ?_
    refine B2 rfl rfl (B0 1 rfl (A0 rfl) rfl M5 rfl) ?_
    refine B2 rfl rfl (F1 0 rfl (A0 rfl) rfl K3 D5 rfl) ?_
    refine B2 rfl rfl (D7 rfl Tryz.call183 rfl (m6 _ (by first | assumption | omega)) (A6 (A0 rfl) C0)) ?_
    refine B2 rfl rfl (K9 rfl E4 D5 Tryz.zeroValue130 rfl rfl rfl rfl (D0 (A0 rfl) (D6 _) G9) rfl rfl) ?_
    refine P7 ?_
    refine L2 (by' := 72) 2 rfl rfl rfl rfl E4 Tryz.type130 rfl rfl rfl rfl rfl rfl (A0 rfl) (A0 rfl) rfl (by simp only [A8, D9, A7]; omega) ?_
    intro v28_2
    refine A1 rfl (B1 2 rfl C4 rfl G8 (A0 rfl) rfl) ?_
    refine T8 2 rfl fun one_v28_2 => ?_
    refine K8 1 rfl rfl rfl (A0 rfl) (A0 rfl) (U2 one_v28_2) rfl G8 rfl ?_
    refine A4 (A2 ?_)
    refine A1 rfl (G0 rfl (A0 rfl) B4 (by first | omega | (simp only [C8, A7, szR] at *; omega))) ?_
    refine A5 rfl ?_
    refine A4 ?_
    refine O2 i v (i + 1) (v28_2) ?_ ?_ (Le.trans (F8 [0, 0, 0] rfl) (K0 1 (by exact congrArg (fun z => Own.box b3 53 [AV.int s.Floor, AV.list 2 (s.Cells.map TCell.cs), AV.is v28_2, AV.is v14_1] :: Own.arr v28_2 130 5 z :: _) (Y3 (f := THeld.cs) hx)) ⟨rfl, rfl, rfl, rfl, rfl, trivial⟩))
    ·omega
    omega
   intro h20
   have k20 := of_decide_eq_false h20; try simp only [A8] at k20
   have hge : i = s.Held.length := by omega
   rw [hge, List.take_length]
   refine G1 ?_
   refine A3 (A2 ?_)
   refine A1 rfl (F1 0 rfl (A0 rfl) rfl F0 C5 rfl) ?_
   refine D2 2 rfl rfl rfl (A0 rfl) (A0 rfl) (D6 _) rfl C5 rfl ?_
   refine A4 ?_
   refine C2 ?_
   exact L5 [4, 4, 1, 3] (v, v14_1) (trivial) rfl (by rfl) (P0 rfl (J9 (ys := _) 2 rfl rfl F0 C5 rfl))
  refine S6 rfl rfl rfl (X4 rfl Tryz.zeroValue53 rfl) (fun a _ => (by first | exact E1 rfl | exact E1 (List.append_assoc _ _ _) | exact H6)) ?_
  intro b3 _
  refine T9 ?_
  refine S6 rfl rfl rfl (i9 4 (fun _ => rfl) (AI9 (by' := 24) 4 rfl I8 Tryz.type132 rfl rfl rfl rfl rfl rfl (A0 rfl) (Ab4 3 rfl (A0 rfl)) rfl (by simp only [N4, A8]; omega))) (fun a _ => (by first | exact E1 rfl | exact E1 (List.append_assoc _ _ _) | exact H6)) ?_
  intro v14_3 hone_v14_3
  have one_v14_3 := hone_v14_3.2
  refine D4 rfl rfl rfl (fun ext => N5 (places := #[(0, 1), (1, 1), (2, 1), (3, 1)]) rfl C4 Tryz.zeroValue53 (fun w => by kernel_rfl) rfl (D0 (A0 rfl) (L8 _ _) (D0 (A0 rfl) (O9 _ _) (D0 (A0 rfl) (U2 one_v14_3) G9))) rfl) ?_
  refine W1 ?_
  refine D2 5 rfl rfl rfl (A0 rfl) (A0 rfl) (D6 _) rfl C5 rfl ?_
  refine A4 (A3 (A3 (A2 ?_)))
  refine A1 rfl (B1 2 rfl C4 rfl G8 (A0 rfl) rfl) ?_
  refine A1 rfl (B0 1 rfl (A0 rfl) rfl M5 rfl) ?_
  refine A1 rfl (W4 2 rfl E4 (A0 rfl) rfl) ?_
  refine A1 rfl (B8 rfl B4) ?_
  refine A4 (C7 ?_)
  refine W5 130 5 ?_
  refine AWP.le (F8 [6, 0] rfl) ?_
  refine P3 [(2, _), (3, _), (17, _), (18, _)] _ (fun (i : Nat) (v : Value) => i ≤ s.Held.length) (fun (i : Nat) (v : Value) => [.box b3 53 [AV.int s.Floor, AV.list 2 (s.Cells.map TCell.cs), AV.is v, AV.is v14_3], .arr v 130 5 ((s.Held.take i).map THeld.cs)]) (fun (i : Nat) (v : Value) => [(19, AV.int i)]) (fun (i : Nat) (v : Value) => s.Held.length - i) (0) ((Value.slice none 0 0)) ?_ (O8 (by rfl) ⟨rfl, rfl, rfl, rfl, rfl, trivial⟩) ?_
  ·exact Nat.zero_le _
  intro i v hinv
  refine A3 (A2 ?_)
  refine A1 rfl (J8 rfl (A0 rfl) (A0 rfl)) ?_
  refine A4 (A3 ?_)
  refine B9 (A0 rfl) ?_ ?_
  ·intro h20
   have k20 := of_decide_eq_true h20; try simp only [A8] at k20
   have hlt : i < s.Held.length := by omega
   obtain ⟨h, hx⟩ := get_some hlt
   obtain ⟨g1, g2, g3, g4, g5⟩ := Y1 hs2 hx
   have hrow : (s.Held.map THeld.cs)[((i : Nat) : Int).toNat]? = some h.cs := by (rw [Int.toNat_natCast, List.getElem?_map, hx]; rfl)
   refine C3 (A3 (C7 (A3 (A2 ?_))))
   refine A1 rfl (U7 4 rfl E4 D5 (A0 rfl) rfl (A0 rfl) (by omega) (by first | omega | (simp only [A8]; omega))) ?_
   refine A1 rfl (c0 4 rfl (A0 rfl) rfl K3 D5 hrow (by decide)) ?_
   refine F5 rfl rfl rfl rfl Tryz.zeroValue130 rfl ?_
   intro b5
   refine D2 0 rfl rfl rfl (A0 rfl) (A0 rfl) (D6 _) rfl D5 rfl ?_
   refine A4 ?_
   refine S9 5 (by kernel_rfl) (by kernel_rfl) rfl ?_
   refine B2 rfl rfl (B1 2 rfl C4 rfl G8 (A0 rfl) rfl) ?_
   refine B2 rfl rfl (B0 1 rfl (A0 rfl) rfl M5 rfl) ?_
   refine B2 rfl rfl (F1 0 rfl (A0 rfl) rfl K3 D5 rfl) ?_
   refine B2 rfl rfl (D7 rfl Tryz.call183 rfl (m6 _ (by first | assumption | omega)) (A6 (A0 rfl) C0)) ?_
   refine B2 rfl rfl (K9 rfl E4 D5 Tryz.zeroValue130 rfl rfl rfl rfl (D0 (A0 rfl) (D6 _) G9) rfl rfl) ?_
   refine P7 ?_
   refine L2 (by' := 72) 2 rfl rfl rfl rfl E4 Tryz.type130 rfl rfl rfl rfl rfl rfl (A0 rfl) (A0 rfl) rfl (by simp only [A8, D9, A7]; omega) ?_
   intro v28_4
   refine A1 rfl (B1 2 rfl C4 rfl G8 (A0 rfl) rfl) ?_
   refine T8 2 rfl fun one_v28_4 => ?_
   refine K8 1 rfl rfl rfl (A0 rfl) (A0 rfl) (U2 one_v28_4) rfl G8 rfl ?_
   refine A4 (A2 ?_)
   refine A1 rfl (G0 rfl (A0 rfl) B4 (by first | omega | (simp only [C8, A7, szR] at *; omega))) ?_
   refine A5 rfl ?_
   refine A4 ?_
   refine O2 i v (i + 1) (v28_4) ?_ ?_ (Le.trans (F8 [0, 0, 0] rfl) (K0 1 (by exact congrArg (fun z => Own.box b3 53 [AV.int s.Floor, AV.list 2 (s.Cells.map TCell.cs), AV.is v28_4, AV.is v14_3] :: Own.arr v28_4 130 5 z :: _) (Y3 (f := THeld.cs) hx)) ⟨rfl, rfl, rfl, rfl, rfl, trivial⟩))
   ·omega
   omega
  intro h20
  have k20 := of_decide_eq_false h20; try simp only [A8] at k20
  have hge : i = s.Held.length := by omega
  rw [hge, List.take_length]
  refine G1 ?_
  refine A3 (A2 ?_)
  refine A1 rfl (F1 0 rfl (A0 rfl) rfl F0 C5 rfl) ?_
  refine D2 2 rfl rfl rfl (A0 rfl) (A0 rfl) (D6 _) rfl C5 rfl ?_
  refine A4 ?_
  refine C2 ?_
  exact L5 [4, 4, 1, 3] (v, v14_3) (trivial) rfl (by rfl) (P0 rfl (J9 (ys := _) 2 rfl rfl F0 C5 rfl))
 refine S6 rfl rfl rfl (X4 rfl Tryz.zeroValue53 rfl) (fun a _ => (by first | exact E1 rfl | exact E1 (List.append_assoc _ _ _) | exact H6)) ?_
 intro b3 _
 refine T9 ?_
 refine S6 rfl rfl rfl (Z6 rfl I8 M1) (fun a _ => (by first | exact E1 rfl | exact E1 (List.append_assoc _ _ _) | exact H6)) ?_
 intro v11 _
 refine T9 ?_
 refine S6 rfl rfl rfl (i9 5 (fun _ => rfl) (AI9 (by' := 24) 5 rfl I8 Tryz.type132 rfl rfl rfl rfl rfl rfl (A0 rfl) (Ab4 3 rfl (A0 rfl)) rfl (by simp only [N4, A8]; omega))) (fun a _ => (by first | exact E1 rfl | exact E1 (List.append_assoc _ _ _) | exact H6)) ?_
 intro v14_5 hone_v14_5
 have one_v14_5 := hone_v14_5.2
 refine D4 rfl rfl rfl (fun ext => N5 (places := #[(0, 1), (1, 1), (2, 1), (3, 1)]) rfl C4 Tryz.zeroValue53 (fun w => by kernel_rfl) rfl (D0 (A0 rfl) (L8 _ _) (D0 (A0 rfl) (O9 _ _) (D0 (A0 rfl) (U2 one_v14_5) G9))) rfl) ?_
 refine W1 ?_
 refine D2 4 rfl rfl rfl (A0 rfl) (A0 rfl) (D6 _) rfl C5 rfl ?_
 refine A4 (A3 (A3 (A2 ?_)))
 refine A1 rfl (B1 2 rfl C4 rfl G8 (A0 rfl) rfl) ?_
 refine A1 rfl (B0 1 rfl (A0 rfl) rfl M5 rfl) ?_
 refine A1 rfl (W4 2 rfl E4 (A0 rfl) rfl) ?_
 refine A1 rfl (B8 rfl B4) ?_
 refine A4 (C7 ?_)
 refine W5 130 5 ?_
 refine AWP.le (F8 [5, 0] rfl) ?_
 refine P3 [(2, _), (3, _), (17, _), (18, _)] _ (fun (i : Nat) (v : Value) => i ≤ s.Held.length) (fun (i : Nat) (v : Value) => [.box b3 53 [AV.int s.Floor, AV.list 2 (s.Cells.map TCell.cs), AV.is v, AV.is v14_5], .arr v 130 5 ((s.Held.take i).map THeld.cs)]) (fun (i : Nat) (v : Value) => [(19, AV.int i)]) (fun (i : Nat) (v : Value) => s.Held.length - i) (0) ((Value.slice none 0 0)) ?_ (O8 (by rfl) ⟨rfl, rfl, rfl, rfl, rfl, trivial⟩) ?_
 ·exact Nat.zero_le _
 intro i v hinv
 refine A3 (A2 ?_)
 refine A1 rfl (J8 rfl (A0 rfl) (A0 rfl)) ?_
 refine A4 (A3 ?_)
 refine B9 (A0 rfl) ?_ ?_
 ·intro h20
  have k20 := of_decide_eq_true h20; try simp only [A8] at k20
  have hlt : i < s.Held.length := by omega
  obtain ⟨h, hx⟩ := get_some hlt
  obtain ⟨g1, g2, g3, g4, g5⟩ := Y1 hs2 hx
  have hrow : (s.Held.map THeld.cs)[((i : Nat) : Int).toNat]? = some h.cs := by (rw [Int.toNat_natCast, List.getElem?_map, hx]; rfl)
  refine C3 (A3 (C7 (A3 (A2 ?_))))
  refine A1 rfl (U7 4 rfl E4 D5 (A0 rfl) rfl (A0 rfl) (by omega) (by first | omega | (simp only [A8]; omega))) ?_
  refine A1 rfl (c0 4 rfl (A0 rfl) rfl K3 D5 hrow (by decide)) ?_
  refine F5 rfl rfl rfl rfl Tryz.zeroValue130 rfl ?_
  intro b5
  refine D2 0 rfl rfl rfl (A0 rfl) (A0 rfl) (D6 _) rfl D5 rfl ?_
  refine A4 ?_
  refine S9 5 (by kernel_rfl) (by kernel_rfl) rfl ?_
  refine B2 rfl rfl (B1 2 rfl C4 rfl G8 (A0 rfl) rfl) ?_
  refine B2 rfl rfl (B0 1 rfl (A0 rfl) rfl M5 rfl) ?_
  refine B2 rfl rfl (F1 0 rfl (A0 rfl) rfl K3 D5 rfl) ?_
  refine B2 rfl rfl (D7 rfl Tryz.call183 rfl (m6 _ (by first | assumption | omega)) (A6 (A0 rfl) C0)) ?_
  refine B2 rfl rfl (K9 rfl E4 D5 Tryz.zeroValue130 rfl rfl rfl rfl (D0 (A0 rfl) (D6 _) G9) rfl rfl) ?_
  refine P7 ?_
  refine L2 (by' := 72) 2 rfl rfl rfl rfl E4 Tryz.type130 rfl rfl rfl rfl rfl rfl (A0 rfl) (A0 rfl) rfl (by simp only [A8, D9, A7]; omega) ?_
  intro v28_6
  refine A1 rfl (B1 2 rfl C4 rfl G8 (A0 rfl) rfl) ?_
  refine T8 2 rfl fun one_v28_6 => ?_
  refine K8 1 rfl rfl rfl (A0 rfl) (A0 rfl) (U2 one_v28_6) rfl G8 rfl ?_
  refine A4 (A2 ?_)
  refine A1 rfl (G0 rfl (A0 rfl) B4 (by first | omega | (simp only [C8, A7, szR] at *; omega))) ?_
  refine A5 rfl ?_
  refine A4 ?_
  refine O2 i v (i + 1) (v28_6) ?_ ?_ (Le.trans (F8 [0, 0, 0] rfl) (K0 1 (by exact congrArg (fun z => Own.box b3 53 [AV.int s.Floor, AV.list 2 (s.Cells.map TCell.cs), AV.is v28_6, AV.is v14_5] :: Own.arr v28_6 130 5 z :: _) (Y3 (f := THeld.cs) hx)) ⟨rfl, rfl, rfl, rfl, rfl, trivial⟩))
  ·omega
  omega
 intro h20
 have k20 := of_decide_eq_false h20; try simp only [A8] at k20
 have hge : i = s.Held.length := by omega
 rw [hge, List.take_length]
 refine G1 ?_
 refine A3 (A2 ?_)
 refine A1 rfl (F1 0 rfl (A0 rfl) rfl F0 C5 rfl) ?_
 refine D2 2 rfl rfl rfl (A0 rfl) (A0 rfl) (D6 _) rfl C5 rfl ?_
 refine A4 ?_
 refine C2 ?_
 exact L5 [4, 4, 1, 3] (v, v14_5) (trivial) rfl (by rfl) (P0 rfl (J9 (ys := _) 2 rfl rfl F0 C5 rfl))
theorem BB1 (s : TState) (y : Value × Value) (n : Int) (hlen : s.Held.length ≤ 1048576) : GSpec Tryz.prog 120 [AV.agg (TState.ocs s y), AV.int n] (TState.ow s y) (fun _ : Unit => True) (fun _ => TState.ow s y) (fun _ => AV.tup [AV.agg (heldFO s.Held n).1.cs, AV.bool (heldFO s.Held n).2]) := by
 obtain ⟨he, hhe⟩ : ∃ he, heldFO s.Held n = he := ⟨_, rfl⟩
 rw [hhe]
 refine H3 Tryz.func120 rfl Tryz.ntmps120 rfl ?_
 refine A3 (A2 ?_)
 refine N1 rfl rfl rfl rfl (A0 rfl) ?_
 intro b2
 refine F5 rfl rfl rfl rfl Tryz.zeroValue130 rfl ?_
 intro b4
 refine A1 rfl (B6 rfl E9) ?_
 refine A4 (A3 (A3 (A2 ?_)))
 refine A1 rfl (B1 2 rfl C4 rfl G8 (A0 rfl) rfl) ?_
 refine A1 rfl (B0 1 rfl (A0 rfl) rfl M5 rfl) ?_
 refine A1 rfl (W4 2 rfl E4 (A0 rfl) rfl) ?_
 refine A1 rfl (B8 rfl B4) ?_
 refine A4 (C7 ?_)
 refine J0 [(1, _), (4, _), (9, _), (10, _)] _ (fun (i : Nat) => i ≤ s.Held.length ∧ ∀ j y, j < i → s.Held[j]? = some y → (y.Txn == n) = false) (fun (i : Nat) => []) (fun (i : Nat) => [(11, AV.int i)]) (fun (i : Nat) => s.Held.length - i) (0) ?_ (K2 ⟨rfl, rfl, rfl, rfl, rfl, trivial⟩) ?_
 ·exact ⟨Nat.zero_le _, fun j y hj => by omega⟩
 intro i hinv
 refine A3 (A2 ?_)
 refine A1 rfl (J8 rfl (A0 rfl) (A0 rfl)) ?_
 refine A4 (A3 ?_)
 refine B9 (A0 rfl) ?_ ?_
 ·intro h12
  have k12 := of_decide_eq_true h12; try simp only [A8] at k12
  have hlt : i < s.Held.length := by omega
  obtain ⟨x, hx⟩ := get_some hlt
  have hrow : (s.Held.map THeld.cs)[((i : Nat) : Int).toNat]? = some x.cs := by (rw [Int.toNat_natCast, List.getElem?_map, hx]; rfl)
  refine C3 (A3 (C7 (A3 (A2 ?_))))
  refine A1 rfl (U7 2 rfl E4 D5 (A0 rfl) rfl (A0 rfl) (by omega) (by first | omega | (simp only [A8]; omega))) ?_
  refine A1 rfl (c0 2 rfl (A0 rfl) rfl K3 D5 hrow (by decide)) ?_
  refine F5 rfl rfl rfl rfl Tryz.zeroValue130 rfl ?_
  intro b7
  refine D2 0 rfl rfl rfl (A0 rfl) (A0 rfl) (D6 _) rfl D5 rfl ?_
  refine A4 (A3 (A2 ?_))
  refine A1 rfl (B1 0 rfl G2 rfl B5 (A0 rfl) rfl) ?_
  refine A1 rfl (B0 0 rfl (A0 rfl) rfl C6 rfl) ?_
  refine A5 rfl ?_
  refine A1 rfl (O1 rfl (A0 rfl) (A0 rfl)) ?_
  refine A4 ?_
  refine B9 (A0 rfl) ?_ ?_
  ·intro h18
   have k18 := M7 h18; try simp only [A8] at k18
   have he9 : he = (x, true) := by (rw [← hhe]; unfold heldFO findH; rw [AD7 hx h18 hinv.2])
   rw [he9]
   refine A3 (A2 ?_)
   refine A1 rfl (F1 0 rfl (A0 rfl) rfl K3 D5 rfl) ?_
   refine D2 1 rfl rfl rfl (A0 rfl) (A0 rfl) (D6 _) rfl D5 rfl ?_
   refine A1 rfl (B6 rfl E9) ?_
   refine A4 ?_
   refine C2 ?_
   exact L5 [3, 3] () (trivial) rfl (by rfl) (V5 rfl (by decide) (E7 (J9 (ys := _) 1 rfl rfl K3 D5 rfl) (E7 (C1 rfl (by rfl)) M0)))
  intro h18
  have k18 := M6 h18; try simp only [A8] at k18
  refine C3 (A2 ?_)
  refine A1 rfl (G0 rfl (A0 rfl) B4 (by first | omega | (simp only [C8, A7, szR] at *; omega))) ?_
  refine A5 rfl ?_
  refine A4 ?_
  refine K4 i (i + 1) ?_ ?_ (X3 1 ⟨rfl, rfl, rfl, rfl, rfl, trivial⟩)
  ·exact ⟨by omega, fun j y hj hy => if hji : j < i then hinv.2 j y hji hy else (by have e : j = i := (by omega); subst e; rw [hx] at hy; injection hy with hy; subst hy; exact h18)⟩
  omega
 intro h12
 have k12 := of_decide_eq_false h12; try simp only [A8] at k12
 have hge : s.Held.length ≤ i := by omega
 have he9 : he = (zHeld, false) := by (rw [← hhe]; unfold heldFO findH; rw [Ab7 fun j y hy => hinv.2 j y (Nat.lt_of_lt_of_le (List.getElem?_eq_some_iff.1 hy).1 hge) hy])
 rw [he9]
 refine G1 ?_
 refine A3 (A2 ?_)
 refine A1 rfl (N5 (places := #[(0, 1), (1, 1), (2, 1), (3, 1), (4, 1)]) rfl G2 Tryz.zeroValue130 (fun w => by kernel_rfl) rfl G9 rfl) ?_
 refine D2 0 rfl rfl rfl (A0 rfl) (A0 rfl) (D6 _) rfl D5 rfl ?_
 refine A1 rfl (B6 rfl E9) ?_
 refine A4 ?_
 refine C2 ?_
 refine Q7 0 3 1 rfl rfl (O0 2 rfl rfl (O0 3 rfl rfl O3)) ?_
 refine Q7 0 4 3 rfl rfl (O0 2 rfl rfl (O0 3 rfl rfl O3)) ?_
 exact L5 [2, 2] () (trivial) rfl (by rfl) (V5 rfl (by decide) (E7 (J9 (ys := _) 0 rfl rfl K3 D5 rfl) (E7 (C1 rfl (by rfl)) M0)))
theorem BJ9 (s : TState) (y : Value × Value) (r : TRec) (g : SO s) (hs : s.size ≤ 300000) (hrs : r.size ≤ 300000) : GSpec Tryz.prog 189 [AV.agg (TState.ocs s y), AV.agg r.cs] (TState.ow s y) (fun _ : Value × Value => True) (fun x => TState.ow s y ++ TState.ow (applyS s r).1 x) (fun x => AV.tup [AV.agg (TState.ocs (applyS s r).1 x), AV.bool (applyS s r).2]) := by
 obtain ⟨hs1, hs2, hs3, hs4, hs5⟩ := X0 hs
 have hgc := g.cells
 have hgh := g.hsort
 have hgt := g.tsort
 have hr2 : r.size = sizeL (fun x : Str => x.length) r.Reads + sizeL TWrite.size r.Writes := rfl
 have hr3 := O4 (f := fun x : Str => x.length) (l := r.Reads)
 have hr4 := O4 (f := TWrite.size) (l := r.Writes)
 have hho := AH5 s.Held r.Txn
 have hto := An1 s.Told r.Txn
 obtain ⟨h, hh⟩ : ∃ h, (heldFO s.Held r.Txn).1 = h := ⟨_, rfl⟩
 have hf1 : hasH s.Held r.Txn = true → findH s.Held r.Txn = some h := fun e => by
  rw [← hho] at e
  unfold heldFO at hh e
  cases hf : findH s.Held r.Txn with
  | none => rw [hf] at e; cases e
  | some x => rw [hf] at hh; exact congrArg some hh
 have hf0 : hasH s.Held r.Txn = false → findH s.Held r.Txn = none := fun e => AO3.2 e
 have hhs : hasH s.Held r.Txn = true → h.size ≤ 300000 ∧ 1 ≤ h.Time := fun e => by
  obtain ⟨h1, h2⟩ := AD4 (hf1 e)
  obtain ⟨i, hi⟩ := List.getElem?_of_mem h1
  exact ⟨(Y1 hs2 hi).1, g.times h h1⟩
 have hlen := AJ0 s.Held r.Txn
 have hll : (lessH s.Held r.Txn).length ≤ s.Held.length := List.length_filter_le _ _
 refine H3 Tryz.func189 rfl Tryz.ntmps189 rfl ?_
 refine A3 (A2 ?_)
 refine N1 rfl rfl rfl rfl (A0 rfl) ?_
 intro b2
 refine N1 rfl rfl rfl rfl (A0 rfl) ?_
 intro b3
 refine F5 rfl rfl rfl rfl Tryz.zeroValue53 rfl ?_
 intro b4
 refine A1 rfl (B6 rfl E9) ?_
 refine A4 (A3 (A2 ?_))
 refine A1 rfl (F1 2 rfl (A0 rfl) rfl F0 C5 rfl) ?_
 refine H9 [3, 3] rfl rfl rfl rfl Tryz.call145 rfl (Aq7 s y (by omega)) (A6 (A0 rfl) C0) rfl ?_
 intro x14 ok14
 refine F5 rfl rfl rfl rfl Tryz.zeroValue53 rfl ?_
 intro b6
 refine D2 0 rfl rfl rfl (A0 rfl) (A0 rfl) (D6 _) rfl C5 rfl ?_
 refine A4 (A3 ?_)
 refine P2 (by first | (simp only [TState.ow, TState.ocs, pick, U0, T6, T2, S4, S2, List.nil_append, U1, T7, List.append_nil, S5, List.take_zero, S8, List.drop_zero]; exact rfl) | exact rfl) ?_
 refine A2 ?_
 refine A1 rfl (F1 7 rfl (A0 rfl) rfl F0 C5 rfl) ?_
 refine A1 rfl (B1 1 rfl B7 rfl B5 (A0 rfl) rfl) ?_
 refine A1 rfl (B0 6 rfl (A0 rfl) rfl C6 rfl) ?_
 refine H9 [1, 1] rfl rfl rfl rfl Tryz.call120 rfl (BB1 s y r.Txn (by omega)) (A6 (A0 rfl) (A6 (A0 rfl) C0)) rfl ?_
 intro x19 ok19
 refine A5 rfl ?_
 refine A1 rfl (G6 rfl (A0 rfl) rfl) ?_
 refine A1 rfl (G6 rfl (A0 rfl) rfl) ?_
 refine F5 rfl rfl rfl rfl Tryz.zeroValue130 rfl ?_
 intro b7
 refine D2 0 rfl rfl rfl (A0 rfl) (A0 rfl) (D6 _) rfl D5 rfl ?_
 refine B3 rfl ?_
 refine A4 (A3 ?_)
 refine P2 (by first | (simp only [TState.ow, TState.ocs, pick, U0, T6, T2, S4, S2, List.nil_append, U1, T7, List.append_nil, S5, List.take_zero, S8, List.drop_zero]; exact rfl) | exact rfl) ?_
 refine A2 ?_
 refine A1 rfl (F1 8 rfl (A0 rfl) rfl F0 C5 rfl) ?_
 refine A1 rfl (B1 1 rfl B7 rfl B5 (A0 rfl) rfl) ?_
 refine A1 rfl (B0 7 rfl (A0 rfl) rfl C6 rfl) ?_
 refine A1 rfl (j8 rfl Tryz.call184 rfl (AF6 s r.Txn (by omega)) (o6 (D8 (d6 (D8 (G7 _ _) (D8 (H2 _) (D8 (G7 _ _) H0)))) (D8 (H2 _) H0))) (U9 (AJ8 (A0 rfl) (Z5 (G4 M4 (G4 M4 (G4 (M8 (F9 (i := 1) rfl) I7) (G4 (M8 (F9 (i := 2) rfl) I7) U3)))))) (U9 (evb (A0 rfl)) Z8))) ?_
 refine A5 rfl ?_
 refine A1 rfl (G6 rfl (A0 rfl) rfl) ?_
 refine A1 rfl (G6 rfl (A0 rfl) rfl) ?_
 refine F5 rfl rfl rfl rfl Tryz.zeroValue132 rfl ?_
 intro b9
 refine D2 0 rfl rfl rfl (A0 rfl) (A0 rfl) (D6 _) rfl M1 rfl ?_
 refine B3 rfl ?_
 refine A4 (A3 (C7 (A3 ?_)))
 rw [hh]
 rw [hho, hto]
 refine P2 (by first | (simp only [TState.ow, TState.ocs, pick, U0, T6, T2, S4, S2, List.nil_append, U1, T7, List.append_nil, S5, List.take_zero, S8, List.drop_zero]; exact rfl) | exact rfl) ?_
 refine A2 ?_
 refine A1 rfl (B1 0 rfl B7 rfl B5 (A0 rfl) rfl) ?_
 refine A1 rfl (B0 8 rfl (A0 rfl) rfl C6 rfl) ?_
 refine A1 rfl (O1 rfl (A0 rfl) B4) ?_
 refine B3 rfl ?_
 refine A4 ?_
 refine B9 (A0 rfl) ?_ ?_
 ·intro h29
  have k29 := M7 h29; try simp only [A8] at k29
  have hk : r.Kind = 4 := by simpa using h29
  have he : applyS s r = (⟨r.Time, s.Cells, s.Held, s.Told⟩, decide (s.Floor < r.Time)) := by (unfold applyS; rw [if_pos hk])
  rw [he]
  refine A3 ?_
  refine P2 (by first | (simp only [TState.ow, TState.ocs, pick, U0, T6, T2, S4, S2, List.nil_append, U1, T7, List.append_nil, S5, List.take_zero, S8, List.drop_zero]; exact rfl) | exact rfl) ?_
  refine A2 ?_
  refine A1 rfl (B1 2 rfl B7 rfl B5 (A0 rfl) rfl) ?_
  refine A1 rfl (B0 8 rfl (A0 rfl) rfl C6 rfl) ?_
  refine A1 rfl (B1 0 rfl C4 rfl B5 (A0 rfl) rfl) ?_
  refine K8 4 rfl rfl rfl (A0 rfl) (A0 rfl) (L8 _ _) rfl B5 rfl ?_
  refine A4 (A3 ?_)
  refine P2 (by first | (simp only [TState.ow, TState.ocs, pick, U0, T6, T2, S4, S2, List.nil_append, U1, T7, List.append_nil, S5, List.take_zero, S8, List.drop_zero]; exact rfl) | exact rfl) ?_
  refine AWP.le (F8 [4, 7, 7] rfl) ?_
  refine Q2 _ 7 (.pure 0 (.pure 1 (.pure 2 (.pure 3 (.pure 4 (.pure 5 (.e1 6 .nil))))))) (by kernel_rfl) (by kernel_rfl) rfl (V2 3) ?_
  refine D4 rfl rfl rfl (fun ext => F1 0 rfl (A0 rfl) rfl F0 C5 rfl) ?_
  refine D4 rfl rfl rfl (fun ext => B1 2 rfl B7 rfl B5 (A0 rfl) rfl) ?_
  refine D4 rfl rfl rfl (fun ext => B0 1 rfl (A0 rfl) rfl C6 rfl) ?_
  refine D4 rfl rfl rfl (fun ext => B1 0 rfl C4 rfl B5 (A0 rfl) rfl) ?_
  refine D4 rfl rfl rfl (fun ext => B0 2 rfl (A0 rfl) rfl C6 rfl) ?_
  refine D4 rfl rfl rfl (fun ext => R8 rfl (A0 rfl) (A0 rfl)) ?_
  refine T9 ?_
  refine j5 rfl rfl rfl (W7 9 rfl rfl (A0 rfl) (A0 rfl) (D6 _) rfl C5 rfl) (fun a _ => (by first | exact E1 rfl | exact E1 (List.append_assoc _ _ _) | exact H6)) ?_
  intro _ _
  refine W1 ?_
  refine B3 rfl ?_
  refine A4 ?_
  refine C2 ?_
  exact L5 [5, 5, 5, 5] (x14.1, x14.2) (trivial) rfl (by rfl) (V5 rfl (by decide) (E7 (J9 (ys := _) 9 rfl rfl F0 C5 rfl) (E7 (C1 rfl (by rfl)) M0)))
 intro h29
 have k29 := M6 h29; try simp only [A8] at k29
 have hk4 : r.Kind ≠ 4 := by simpa using h29
 refine A3 (A2 ?_)
 refine A5 rfl ?_
 refine B3 rfl ?_
 refine A4 ?_
 refine B9 (A0 rfl) ?_ ?_
 ·intro h42
  have he : applyS s r = (s, false) := by (unfold applyS; rw [if_neg hk4, if_pos h42])
  rw [he]
  refine A3 (A2 ?_)
  refine A1 rfl (F1 4 rfl (A0 rfl) rfl F0 C5 rfl) ?_
  refine D2 7 rfl rfl rfl (A0 rfl) (A0 rfl) (D6 _) rfl C5 rfl ?_
  refine A1 rfl (B6 rfl E9) ?_
  refine A4 ?_
  refine C2 ?_
  exact L5 [2, 2, 3, 3] (x14.1, x14.2) (trivial) rfl (by rfl) (V5 rfl (by decide) (E7 (J9 (ys := _) 7 rfl rfl F0 C5 rfl) (E7 (C1 rfl (by rfl)) M0)))
 intro h42
 have hT : hasT s.Told r.Txn = false := h42
 have hnT : ¬ hasT s.Told r.Txn = true := by (rw [hT]; decide)
 refine A3 (A2 ?_)
 refine A1 rfl (B1 0 rfl B7 rfl B5 (A0 rfl) rfl) ?_
 refine A1 rfl (B0 8 rfl (A0 rfl) rfl C6 rfl) ?_
 refine A1 rfl (O1 rfl (A0 rfl) B4) ?_
 refine B3 rfl ?_
 refine A4 ?_
 refine B9 (A0 rfl) ?_ ?_
 ·intro h45
  have k45 := M7 h45; try simp only [A8] at k45
  have hk1 : r.Kind = 1 := by simpa using h45
  have he : applyS s r = (⟨r.Time, s.Cells, insH (hOf r) s.Held, s.Told⟩, (!hasH s.Held r.Txn && decide (s.Floor < r.Time)) && fits s r.Reads r.Writes) := by (unfold applyS; rw [if_neg hk4, if_neg hnT, if_pos hk1])
  rw [he]
  refine A3 ?_
  refine AWP.le (i0 [5] 4 (.box b6 53 [AV.int s.Floor, AV.list 2 (s.Cells.map TCell.cs), AV.list 5 (s.Held.map THeld.cs), AV.is x14.2]) rfl rfl ⟨rfl, rfl, (G4 M4 (G4 M4 (G4 (M8 (F9 (i := 0) rfl) I7) (G4 M4 U3))))⟩ (O0 2 rfl rfl (O0 3 rfl rfl O3))) ?_
  refine P2 (by first | (simp only [TState.ow, TState.ocs, pick, U0, T6, T2, S4, S2, List.nil_append, U1, T7, List.append_nil, S5, List.take_zero, S8, List.drop_zero]; exact rfl) | exact rfl) ?_
  refine AWP.le (F8 [4, 6] rfl) ?_
  refine V3 _ [(0, false), (1, false), (2, false), (3, false), (4, false), (5, false), (6, false), (7, false), (8, false), (9, false), (10, false), (12, false), (13, false), (11, true), (14, true), (15, false), (16, true)] (by kernel_rfl) (by kernel_rfl) rfl (V2 2) ?_
  refine H7 rfl rfl rfl (fun ext => B1 2 rfl C4 rfl G8 (A0 rfl) rfl) ?_
  refine H7 rfl rfl rfl (fun ext => B0 0 rfl (A0 rfl) rfl M5 rfl) ?_
  refine H7 rfl rfl rfl (fun ext => B1 1 rfl B7 rfl B5 (A0 rfl) rfl) ?_
  refine H7 rfl rfl rfl (fun ext => B0 1 rfl (A0 rfl) rfl C6 rfl) ?_
  refine H7 rfl rfl rfl (fun ext => B1 2 rfl B7 rfl B5 (A0 rfl) rfl) ?_
  refine H7 rfl rfl rfl (fun ext => B0 1 rfl (A0 rfl) rfl C6 rfl) ?_
  refine H7 rfl rfl rfl (fun ext => B1 3 rfl B7 rfl B5 (A0 rfl) rfl) ?_
  refine H7 rfl rfl rfl (fun ext => B0 1 rfl (A0 rfl) rfl C6 rfl) ?_
  refine H7 rfl rfl rfl (fun ext => B1 4 rfl B7 rfl H5 (A0 rfl) rfl) ?_
  refine H7 rfl rfl rfl (fun ext => B0 1 rfl (A0 rfl) rfl K7 rfl) ?_
  refine H7 rfl rfl rfl (fun ext => D7 rfl Tryz.call52 rfl (m7 _ (by omega)) (A6 (A0 rfl) C0)) ?_
  refine H7 rfl rfl rfl (fun ext => B1 5 rfl B7 rfl L0 (A0 rfl) rfl) ?_
  refine H7 rfl rfl rfl (fun ext => B0 1 rfl (A0 rfl) rfl M3 rfl) ?_
  refine V4 rfl rfl rfl (Z6 rfl D1 E5) (fun a _ => (by first | exact E1 rfl | exact E1 (List.append_assoc _ _ _) | exact H6)) ?_
  intro v60 _
  refine V4 rfl rfl rfl (AU5 [9] (fun _ => rfl) (fun _ => M8 (F9 (i := 0) rfl) I7) (fun _ => (O0 4 rfl rfl (O0 5 rfl rfl O3))) (R5 (by' := 40) 9 rfl D1 Tryz.type79 rfl rfl rfl rfl rfl rfl (A0 rfl) (A0 rfl) rfl (by simp only [N4, A8]; omega))) (fun a _ => (by first | exact E1 rfl | exact E1 (List.append_assoc _ _ _) | exact H6)) ?_
  intro v63_1 _
  refine H7 rfl rfl rfl (fun ext => N5 (places := #[(0, 1), (1, 1), (2, 1), (3, 1), (4, 1)]) rfl G2 Tryz.zeroValue130 (fun w => by kernel_rfl) rfl (D0 (A0 rfl) (L8 _ _) (D0 (A0 rfl) (L8 _ _) (D0 (A0 rfl) (L8 _ _) (D0 (A0 rfl) (O9 _ _) (D0 (A0 rfl) (O9 _ _) G9))))) rfl) ?_
  refine V4 rfl rfl rfl (Y0 [] rfl Tryz.call202 rfl (AZ3 s.Held (hOf r) hgh (by omega)) (A6 (A0 rfl) (A6 (A0 rfl) C0)) rfl) (fun a _ => (by first | exact E1 rfl | exact E1 (List.append_assoc _ _ _) | exact H6)) ?_
  intro x65 ok65
  refine l4 ?_
  refine A1 rfl (B1 2 rfl C4 rfl G8 (A0 rfl) rfl) ?_
  refine T8 9 rfl fun one_x65 => ?_
  refine K8 0 rfl rfl rfl (A0 rfl) (A0 rfl) (U2 one_x65) rfl G8 rfl ?_
  refine A4 (A3 ?_)
  refine P2 (by first | (simp only [TState.ow, TState.ocs, pick, U0, T6, T2, S4, S2, List.nil_append, U1, T7, List.append_nil, S5, List.take_zero, S8, List.drop_zero]; exact rfl) | exact rfl) ?_
  refine A2 ?_
  refine A1 rfl (B1 2 rfl B7 rfl B5 (A0 rfl) rfl) ?_
  refine A1 rfl (B0 1 rfl (A0 rfl) rfl C6 rfl) ?_
  refine A1 rfl (B1 0 rfl C4 rfl B5 (A0 rfl) rfl) ?_
  refine K8 0 rfl rfl rfl (A0 rfl) (A0 rfl) (L8 _ _) rfl B5 rfl ?_
  refine A4 (A3 ?_)
  refine P2 (by first | (simp only [TState.ow, TState.ocs, pick, U0, T6, T2, S4, S2, List.nil_append, U1, T7, List.append_nil, S5, List.take_zero, S8, List.drop_zero]; exact rfl) | exact rfl) ?_
  refine AWP.le (F8 [0, 0, 6, 2, 2] rfl) ?_
  refine Q2 _ 19 (.pure 0 (.pure 1 (.pure 2 (.pure 3 (.pure 4 (.pure 5 (.pure 6 (.pure 7 (.pure 8 (.pure 9 (.pure 10 (.pure 11 (.pure 12 (.pure 13 (.pure 14 (.pure 15 (.pure 16 (.pure 17 (.e1 18 .nil))))))))))))))))))) (by kernel_rfl) (by kernel_rfl) rfl (V2 5) ?_
  refine D4 rfl rfl rfl (fun ext => F1 0 rfl (A0 rfl) rfl F0 C5 rfl) ?_
  refine D4 rfl rfl rfl (fun ext => B8 rfl (A0 rfl)) ?_
  refine D4 rfl rfl rfl (fun ext => M2 rfl (A0 rfl)) ?_
  refine D4 rfl rfl rfl (fun ext => B8 rfl (A0 rfl)) ?_
  refine T5 rfl rfl (I9 rfl rfl rfl) (fun hc ext => B1 2 rfl B7 rfl B5 (A0 rfl) rfl) ?_
  refine T5 rfl rfl (I9 rfl rfl rfl) (fun hc ext => B0 1 rfl (A9 rfl hc) rfl C6 rfl) ?_
  refine T5 rfl rfl (I9 rfl rfl rfl) (fun hc ext => B1 0 rfl C4 rfl B5 (A0 rfl) rfl) ?_
  refine T5 rfl rfl (I9 rfl rfl rfl) (fun hc ext => B0 2 rfl (A9 rfl hc) rfl C6 rfl) ?_
  refine T5 rfl rfl (I9 rfl rfl rfl) (fun hc ext => R8 rfl (A9 rfl hc) (A9 rfl hc)) ?_
  refine D4 rfl rfl rfl (fun ext => J5 rfl (A0 rfl) (F7 rfl)) ?_
  refine D4 rfl rfl rfl (fun ext => B8 rfl (A0 rfl)) ?_
  refine T5 rfl rfl (I9 rfl rfl rfl) (fun hc ext => F1 2 rfl (A0 rfl) rfl F0 C5 rfl) ?_
  refine T5 rfl rfl (I9 rfl rfl rfl) (fun hc ext => B1 4 rfl B7 rfl H5 (A0 rfl) rfl) ?_
  refine T5 rfl rfl (I9 rfl rfl rfl) (fun hc ext => B0 1 rfl (A9 rfl hc) rfl K7 rfl) ?_
  refine T5 rfl rfl (I9 rfl rfl rfl) (fun hc ext => B1 5 rfl B7 rfl L0 (A0 rfl) rfl) ?_
  refine T5 rfl rfl (I9 rfl rfl rfl) (fun hc ext => B0 1 rfl (A9 rfl hc) rfl M3 rfl) ?_
  refine T5 rfl rfl (I9 rfl rfl rfl) (fun hc ext => j8 rfl Tryz.call203 rfl (Af6 s r.Reads r.Writes (by omega) (by omega)) (H2 _) (U9 (AJ8 (A9 rfl hc) (Z5 (G4 M4 (G4 M4 (G4 (M8 (F9 (i := 3) rfl) I7) (G4 (M8 (F9 (i := 4) rfl) I7) U3)))))) (U9 (evb (A9 rfl hc)) (U9 (evb (A9 rfl hc)) Z8)))) ?_
  refine D4 rfl rfl rfl (fun ext => J5 rfl (A0 rfl) (F7 rfl)) ?_
  refine T9 ?_
  refine j5 rfl rfl rfl (W7 8 rfl rfl (A0 rfl) (A0 rfl) (D6 _) rfl C5 rfl) (fun a _ => (by first | exact E1 rfl | exact E1 (List.append_assoc _ _ _) | exact H6)) ?_
  intro _ _
  refine W1 ?_
  refine B3 rfl ?_
  refine A4 ?_
  refine C2 ?_
  exact L5 [3, 3, 7, 5] (x65, x14.2) (trivial) rfl (by rfl) (V5 rfl (by decide) (E7 (J9 (ys := _) 8 rfl rfl F0 C5 rfl) (E7 (C1 rfl (by rfl)) M0)))
 intro h45
 have k45 := M6 h45; try simp only [A8] at k45
 have hk1 : r.Kind ≠ 1 := by simpa using h45
 have hap : applyS s r = (if r.Yes = true then (match findH s.Held r.Txn with | none => (s, false) | some h => if r.Time < h.Time then (s, false) else if (putP s.Cells h.Writes r.Time).2 = true then (doneS s r (if s.Floor < r.Time then r.Time else s.Floor) (putP s.Cells h.Writes r.Time).1, true) else (s, false)) else (doneS s r s.Floor s.Cells, true)) := by (unfold applyS; rw [if_neg hk4, if_neg hnT, if_neg hk1]; rfl)
 refine A3 (A2 ?_)
 refine A1 rfl (B1 6 rfl B7 rfl N2 (A0 rfl) rfl) ?_
 refine A1 rfl (B0 8 rfl (A0 rfl) rfl O5 rfl) ?_
 refine B3 rfl ?_
 refine A4 ?_
 refine B9 (A0 rfl) ?_ ?_
 ·intro h88
  refine A3 (A3 (A2 ?_))
  refine A5 rfl ?_
  refine A1 rfl (M2 rfl (A0 rfl)) ?_
  refine A5 rfl ?_
  refine F3 rfl (fun hc => B1 1 rfl G2 rfl B5 (A0 rfl) rfl) ?_
  refine F3 rfl (fun hc => B0 1 rfl (A9 rfl hc) rfl C6 rfl) ?_
  refine F3 rfl (fun hc => B1 2 rfl B7 rfl B5 (A0 rfl) rfl) ?_
  refine F3 rfl (fun hc => B0 8 rfl (A9 rfl hc) rfl C6 rfl) ?_
  refine F3 rfl (fun hc => R8 rfl (A9 rfl hc) (A9 rfl hc)) ?_
  refine A1 rfl (Q8 rfl (A0 rfl) (F7 rfl)) ?_
  refine A4 ?_
  refine B9 (A0 rfl) ?_ ?_
  ·intro h99
   have he : applyS s r = (s, false) := by (rw [hap, if_pos h88]; cases e : hasH s.Held r.Txn with | false => (rw [hf0 e]) | true => (rw [hf1 e]; dsimp only; rw [if_pos (by rw [e] at h99; simpa using h99)]))
   rw [he]
   refine A3 ?_
   refine P2 (by first | (simp only [TState.ow, TState.ocs, pick, U0, T6, T2, S4, S2, List.nil_append, U1, T7, List.append_nil, S5, List.take_zero, S8, List.drop_zero]; exact rfl) | exact rfl) ?_
   refine A2 ?_
   refine A1 rfl (F1 4 rfl (A0 rfl) rfl F0 C5 rfl) ?_
   refine D2 7 rfl rfl rfl (A0 rfl) (A0 rfl) (D6 _) rfl C5 rfl ?_
   refine A1 rfl (B6 rfl E9) ?_
   refine A4 ?_
   refine C2 ?_
   exact L5 [2, 2, 3, 3] (x14.1, x14.2) (trivial) rfl (by rfl) (V5 rfl (by decide) (E7 (J9 (ys := _) 7 rfl rfl F0 C5 rfl) (E7 (C1 rfl (by rfl)) M0)))
  intro h99
  simp only [Bool.or_eq_false_iff, Bool.not_eq_false', decide_eq_false_iff_not] at h99
  obtain ⟨hhas, hnlt⟩ := h99
  obtain ⟨hz1, hz2⟩ := hhs hhas
  have hz3 : h.size = sizeL (fun x => x.length) h.Reads + sizeL TWrite.size h.Writes := rfl
  refine C3 (A3 ?_)
  refine P2 (by first | (simp only [TState.ow, TState.ocs, pick, U0, T6, T2, S4, S2, List.nil_append, U1, T7, List.append_nil, S5, List.take_zero, S8, List.drop_zero]; exact rfl) | exact rfl) ?_
  refine A2 ?_
  refine A1 rfl (B1 1 rfl C4 rfl P6 (A0 rfl) rfl) ?_
  refine A1 rfl (B0 9 rfl (A0 rfl) rfl S1 rfl) ?_
  refine A1 rfl (B1 4 rfl G2 rfl L0 (A0 rfl) rfl) ?_
  refine A1 rfl (B0 1 rfl (A0 rfl) rfl M3 rfl) ?_
  refine A1 rfl (B1 2 rfl B7 rfl B5 (A0 rfl) rfl) ?_
  refine A1 rfl (B0 8 rfl (A0 rfl) rfl C6 rfl) ?_
  refine A1 rfl (D7 rfl Tryz.call204 rfl (AZ4 s.Cells h.Writes r.Time hgc (by omega) (by omega) (by omega)) (A6 (A0 rfl) (A6 (A0 rfl) (A6 (A0 rfl) C0)))) ?_
  refine A5 rfl ?_
  refine A1 rfl (G6 rfl (A0 rfl) rfl) ?_
  refine A1 rfl (G6 rfl (A0 rfl) rfl) ?_
  refine B3 rfl ?_
  refine B3 rfl ?_
  refine A4 (A3 (A3 (A2 ?_)))
  refine A5 rfl ?_
  refine A1 rfl (M2 rfl (A0 rfl)) ?_
  refine A4 ?_
  refine B9 (A0 rfl) ?_ ?_
  ·intro h112
   have he : applyS s r = (s, false) := by (rw [hap, if_pos h88, hf1 hhas]; dsimp only; rw [if_neg (by omega), if_neg (by simpa using h112)])
   rw [he]
   refine A3 (A2 ?_)
   refine A1 rfl (F1 4 rfl (A0 rfl) rfl F0 C5 rfl) ?_
   refine D2 7 rfl rfl rfl (A0 rfl) (A0 rfl) (D6 _) rfl C5 rfl ?_
   refine A1 rfl (B6 rfl E9) ?_
   refine A4 ?_
   refine C2 ?_
   exact L5 [2, 2, 3, 3] (x14.1, x14.2) (trivial) rfl (by rfl) (V5 rfl (by decide) (E7 (J9 (ys := _) 7 rfl rfl F0 C5 rfl) (E7 (C1 rfl (by rfl)) M0)))
  intro h112
  have he : applyS s r = (doneS s r (if s.Floor < r.Time then r.Time else s.Floor) (putP s.Cells h.Writes r.Time).1, true) := by (rw [hap, if_pos h88, hf1 hhas]; dsimp only; rw [if_neg (by omega), if_pos (by simpa using h112)])
  rw [he]
  unfold doneS
  refine C3 (A3 ?_)
  refine P2 (by first | (simp only [TState.ow, TState.ocs, pick, U0, T6, T2, S4, S2, List.nil_append, U1, T7, List.append_nil, S5, List.take_zero, S8, List.drop_zero]; exact rfl) | exact rfl) ?_
  refine A2 ?_
  refine A5 rfl ?_
  refine A1 rfl (B1 1 rfl C4 rfl P6 (A0 rfl) rfl) ?_
  refine K8 4 rfl rfl rfl (A0 rfl) (A0 rfl) (O9 _ _) rfl P6 rfl ?_
  refine A4 ?_
  refine P2 (by first | (simp only [TState.ow, TState.ocs, pick, U0, T6, T2, S4, S2, List.nil_append, U1, T7, List.append_nil, S5, List.take_zero, S8, List.drop_zero]; exact rfl) | exact rfl) ?_
  refine A2 ?_
  refine A1 rfl (B1 0 rfl C4 rfl B5 (A0 rfl) rfl) ?_
  refine A1 rfl (B0 9 rfl (A0 rfl) rfl C6 rfl) ?_
  refine A1 rfl (B1 2 rfl B7 rfl B5 (A0 rfl) rfl) ?_
  refine A1 rfl (B0 8 rfl (A0 rfl) rfl C6 rfl) ?_
  refine A1 rfl (D7 rfl Tryz.call188 rfl (AV1 _ _) (A6 (A0 rfl) (A6 (A0 rfl) C0))) ?_
  refine A1 rfl (B1 0 rfl C4 rfl B5 (A0 rfl) rfl) ?_
  refine K8 4 rfl rfl rfl (A0 rfl) (A0 rfl) (L8 _ _) rfl B5 rfl ?_
  refine A4 (A3 ?_)
  refine AWP.le (i0 [5, 5] 4 (.box b6 53 [_, _, AV.list 5 (s.Held.map THeld.cs), AV.list 3 (s.Told.map TTold.cs)]) rfl rfl ⟨rfl, rfl, (G4 M4 (G4 M4 (G4 (M8 (F9 (i := 0) rfl) I7) (G4 (M8 (F9 (i := 1) rfl) I7) U3))))⟩ (O0 2 rfl rfl (O0 3 rfl rfl O3))) ?_
  refine P2 (by first | (simp only [TState.ow, TState.ocs, pick, U0, T6, T2, S4, S2, List.nil_append, U1, T7, List.append_nil, S5, List.take_zero, S8, List.drop_zero]; exact rfl) | exact rfl) ?_
  refine A2 ?_
  refine A1 rfl (B1 2 rfl C4 rfl G8 (A0 rfl) rfl) ?_
  refine A1 rfl (B0 4 rfl (A0 rfl) rfl M5 rfl) ?_
  refine A1 rfl (B1 1 rfl B7 rfl B5 (A0 rfl) rfl) ?_
  refine A1 rfl (B0 6 rfl (A0 rfl) rfl C6 rfl) ?_
  refine H9 [] rfl rfl rfl rfl Tryz.call205 rfl (Ab8 s.Held r.Txn (by omega)) (A6 (A0 rfl) (A6 (A0 rfl) C0)) rfl ?_
  intro x126 ok126
  refine A1 rfl (B1 2 rfl C4 rfl G8 (A0 rfl) rfl) ?_
  refine T8 0 rfl fun one_x126 => ?_
  refine K8 5 rfl rfl rfl (A0 rfl) (A0 rfl) (U2 one_x126) rfl G8 rfl ?_
  refine A4 (A3 ?_)
  refine P2 (by first | (simp only [TState.ow, TState.ocs, pick, U0, T6, T2, S4, S2, List.nil_append, U1, T7, List.append_nil, S5, List.take_zero, S8, List.drop_zero]; exact rfl) | exact rfl) ?_
  refine A2 ?_
  refine A1 rfl (B1 3 rfl C4 rfl O7 (A0 rfl) rfl) ?_
  refine A1 rfl (B0 5 rfl (A0 rfl) rfl T0 rfl) ?_
  refine A1 rfl (B1 1 rfl B7 rfl B5 (A0 rfl) rfl) ?_
  refine A1 rfl (B0 7 rfl (A0 rfl) rfl C6 rfl) ?_
  refine A1 rfl (B1 6 rfl B7 rfl N2 (A0 rfl) rfl) ?_
  refine A1 rfl (B0 7 rfl (A0 rfl) rfl O5 rfl) ?_
  refine A1 rfl (B1 2 rfl B7 rfl B5 (A0 rfl) rfl) ?_
  refine A1 rfl (B0 7 rfl (A0 rfl) rfl C6 rfl) ?_
  refine A1 rfl (N5 (places := #[(0, 1), (1, 1), (2, 1)]) rfl M9 Tryz.zeroValue132 (fun w => by kernel_rfl) rfl (D0 (A0 rfl) (L8 _ _) (D0 (A0 rfl) (f6 _) (D0 (A0 rfl) (L8 _ _) G9))) rfl) ?_
  refine H9 [] rfl rfl rfl rfl Tryz.call206 rfl (AJ2 s.Told ⟨r.Txn, r.Yes, r.Time⟩ hgt (by omega)) (A6 (A0 rfl) (A6 (A0 rfl) C0)) rfl ?_
  intro x137 ok137
  refine A1 rfl (B1 3 rfl C4 rfl O7 (A0 rfl) rfl) ?_
  refine T8 0 rfl fun one_x137 => ?_
  refine K8 6 rfl rfl rfl (A0 rfl) (A0 rfl) (U2 one_x137) rfl O7 rfl ?_
  refine A4 (A3 ?_)
  refine P2 (by first | (simp only [TState.ow, TState.ocs, pick, U0, T6, T2, S4, S2, List.nil_append, U1, T7, List.append_nil, S5, List.take_zero, S8, List.drop_zero]; exact rfl) | exact rfl) ?_
  refine A2 ?_
  refine A1 rfl (F1 6 rfl (A0 rfl) rfl F0 C5 rfl) ?_
  refine D2 7 rfl rfl rfl (A0 rfl) (A0 rfl) (D6 _) rfl C5 rfl ?_
  refine A1 rfl (B6 rfl E9) ?_
  refine A4 ?_
  refine C2 ?_
  exact L5 [4, 4, 1, 0] (x126, x137) (trivial) rfl (by rfl) (V5 rfl (by decide) (E7 (J9 (ys := _) 7 rfl rfl F0 C5 rfl) (E7 (C1 rfl (by rfl)) M0)))
 intro h88
 have he : applyS s r = (doneS s r s.Floor s.Cells, true) := by (rw [hap, if_neg (by rw [h88]; decide)])
 rw [he]
 unfold doneS
 refine C3 (A3 ?_)
 refine AWP.le (i0 [5, 5] 4 (.box b6 53 [_, _, AV.list 5 (s.Held.map THeld.cs), AV.list 3 (s.Told.map TTold.cs)]) rfl rfl ⟨rfl, rfl, (G4 M4 (G4 M4 (G4 (M8 (F9 (i := 0) rfl) I7) (G4 (M8 (F9 (i := 1) rfl) I7) U3))))⟩ (O0 2 rfl rfl (O0 3 rfl rfl O3))) ?_
 refine P2 (by first | (simp only [TState.ow, TState.ocs, pick, U0, T6, T2, S4, S2, List.nil_append, U1, T7, List.append_nil, S5, List.take_zero, S8, List.drop_zero]; exact rfl) | exact rfl) ?_
 refine A2 ?_
 refine A1 rfl (B1 2 rfl C4 rfl G8 (A0 rfl) rfl) ?_
 refine A1 rfl (B0 4 rfl (A0 rfl) rfl M5 rfl) ?_
 refine A1 rfl (B1 1 rfl B7 rfl B5 (A0 rfl) rfl) ?_
 refine A1 rfl (B0 6 rfl (A0 rfl) rfl C6 rfl) ?_
 refine H9 [] rfl rfl rfl rfl Tryz.call205 rfl (Ab8 s.Held r.Txn (by omega)) (A6 (A0 rfl) (A6 (A0 rfl) C0)) rfl ?_
 intro x126 ok126
 refine A1 rfl (B1 2 rfl C4 rfl G8 (A0 rfl) rfl) ?_
 refine T8 0 rfl fun one_x126 => ?_
 refine K8 5 rfl rfl rfl (A0 rfl) (A0 rfl) (U2 one_x126) rfl G8 rfl ?_
 refine A4 (A3 ?_)
 refine P2 (by first | (simp only [TState.ow, TState.ocs, pick, U0, T6, T2, S4, S2, List.nil_append, U1, T7, List.append_nil, S5, List.take_zero, S8, List.drop_zero]; exact rfl) | exact rfl) ?_
 refine A2 ?_
 refine A1 rfl (B1 3 rfl C4 rfl O7 (A0 rfl) rfl) ?_
 refine A1 rfl (B0 5 rfl (A0 rfl) rfl T0 rfl) ?_
 refine A1 rfl (B1 1 rfl B7 rfl B5 (A0 rfl) rfl) ?_
 refine A1 rfl (B0 7 rfl (A0 rfl) rfl C6 rfl) ?_
 refine A1 rfl (B1 6 rfl B7 rfl N2 (A0 rfl) rfl) ?_
 refine A1 rfl (B0 7 rfl (A0 rfl) rfl O5 rfl) ?_
 refine A1 rfl (B1 2 rfl B7 rfl B5 (A0 rfl) rfl) ?_
 refine A1 rfl (B0 7 rfl (A0 rfl) rfl C6 rfl) ?_
 refine A1 rfl (N5 (places := #[(0, 1), (1, 1), (2, 1)]) rfl M9 Tryz.zeroValue132 (fun w => by kernel_rfl) rfl (D0 (A0 rfl) (L8 _ _) (D0 (A0 rfl) (f6 _) (D0 (A0 rfl) (L8 _ _) G9))) rfl) ?_
 refine H9 [] rfl rfl rfl rfl Tryz.call206 rfl (AJ2 s.Told ⟨r.Txn, r.Yes, r.Time⟩ hgt (by omega)) (A6 (A0 rfl) (A6 (A0 rfl) C0)) rfl ?_
 intro x137 ok137
 refine A1 rfl (B1 3 rfl C4 rfl O7 (A0 rfl) rfl) ?_
 refine T8 0 rfl fun one_x137 => ?_
 refine K8 6 rfl rfl rfl (A0 rfl) (A0 rfl) (U2 one_x137) rfl O7 rfl ?_
 refine A4 (A3 ?_)
 refine P2 (by first | (simp only [TState.ow, TState.ocs, pick, U0, T6, T2, S4, S2, List.nil_append, U1, T7, List.append_nil, S5, List.take_zero, S8, List.drop_zero]; exact rfl) | exact rfl) ?_
 refine A2 ?_
 refine A1 rfl (F1 6 rfl (A0 rfl) rfl F0 C5 rfl) ?_
 refine D2 7 rfl rfl rfl (A0 rfl) (A0 rfl) (D6 _) rfl C5 rfl ?_
 refine A1 rfl (B6 rfl E9) ?_
 refine A4 ?_
 refine C2 ?_
 exact L5 [4, 4, 1, 0] (x126, x137) (trivial) rfl (by rfl) (V5 rfl (by decide) (E7 (J9 (ys := _) 7 rfl rfl F0 C5 rfl) (E7 (C1 rfl (by rfl)) M0)))
end Go.Proofs.YtoaoicnnimjbeaaGreat

namespace Go.M
open Go.AV
structure SB (m : Int) (s : TState) : Prop where
  floor : 0 ≤ s.Floor ∧ s.Floor ≤ m
  leads : ∀ h ∈ s.Held, 0 ≤ h.Lead ∧ h.Lead ≤ 3
theorem sb_apply {m : Int} {s : TState} (g : SB m s) {r : TRec} (h1 : r.Time ≤ m) (h2 : 0 ≤ r.Lead ∧ r.Lead ≤ 3) (h : (applyS s r).2 = true) : SB m (applyS s r).1 := by
  obtain ⟨g1, g2⟩ := g
  have hless : ∀ h ∈ lessH s.Held r.Txn, 0 ≤ h.Lead ∧ h.Lead ≤ 3 := fun k hk => g2 k (n0.1 hk).1
  unfold applyS at h ⊢
  by_cases h4 : r.Kind = 4
  · rw [if_pos h4] at h ⊢
    have := of_decide_eq_true h
    exact ⟨⟨by dsimp only; omega, h1⟩, g2⟩
  · rw [if_neg h4] at h ⊢
    by_cases hT : hasT s.Told r.Txn = true
    · rw [if_pos hT] at h; cases h
    · rw [if_neg hT] at h ⊢
      by_cases hk : r.Kind = 1
      · rw [if_pos hk] at h ⊢
        simp only [Bool.and_eq_true, Bool.not_eq_true', decide_eq_true_eq] at h
        refine ⟨⟨by dsimp only; omega, h1⟩, fun k hm => ?_⟩
        rcases p3.1 hm with rfl | hm
        · exact h2
        · exact g2 k hm
      · rw [if_neg hk] at h ⊢
        by_cases hy : r.Yes = true
        · rw [if_pos hy] at h ⊢
          cases hf : findH s.Held r.Txn with
          | none => rw [hf] at h; cases h
          | some k =>
            rw [hf] at h
            dsimp only at h ⊢
            by_cases hlt : r.Time < k.Time
            · rw [if_pos hlt] at h; cases h
            · rw [if_neg hlt] at h ⊢
              by_cases hp : (putP s.Cells k.Writes r.Time).2 = true
              · rw [if_pos hp]; exact ⟨by unfold doneS; dsimp only; split <;> omega, hless⟩
              · rw [if_neg hp] at h; cases h
        · rw [if_neg hy]; exact ⟨g1, hless⟩
theorem sb_step {m : Int} {s : TState} (g : SB m s) {r : TRec} (h1 : r.Time ≤ m) (h2 : 0 ≤ r.Lead ∧ r.Lead ≤ 3) : SB m (stepS s r) := by
  unfold stepS
  split
  · exact sb_apply g h1 h2 ‹_›
  · exact g
theorem BE4 {m : Int} : ∀ {l : List TRec} {s : TState}, SB m s → (∀ r ∈ l, r.Time ≤ m ∧ 0 ≤ r.Lead ∧ r.Lead ≤ 3) → SB m (stFrom s l)
  | [], s, g, _ => g
  | r :: l, s, g, h => by
    show SB m (stFrom (stepS s r) l)
    exact BE4 (sb_step g (h r List.mem_cons_self).1 (h r List.mem_cons_self).2) fun x hx => h x (List.mem_cons_of_mem _ hx)
theorem st_phi {l : List TRec} (hl : l.length ≤ 11) (h : ∀ r ∈ l, r.size ≤ 1000) : phi (stFrom zState l) ≤ 33044 := by
  have h2 := Ab5 (m := 1000) (s := zState) (l := l) h
  have h3 : phi zState = 0 := rfl
  have h5 : l.length * (3 * (1 + 1000) + 1) ≤ 11 * 3004 := Nat.mul_le_mul hl (by decide)
  omega
end Go.M
namespace Go.Proofs.YtoaoicnnimjbeaaGreat
open Go Go.AV Go.M
attribute [local irreducible] OpW OpA OpS AWP FSpec ESpec GSpec OpE RetOk RetOkG RvDen Le Ev GuardIs SrcIs SrcE Int.tmod Int.tdiv IntKind.wrap bandI
theorem ofK_own (l : List TRec) (hl : l.length ≤ 60) (hr : ∀ r ∈ l, r.size ≤ 1100) : GSpec Tryz.prog 148 [AV.list 7 (l.map TRec.cs)] [] (fun _ : Value × Value × Value => True) (fun x => TState.ow (stFrom zState l) (x.1, x.2.1) ++ [.arr x.2.2 4 1 ((didFrom zState l).map fun b => [AV.bool b])]) (fun x => AV.tup [AV.agg (TState.ocs (stFrom zState l) (x.1, x.2.1)), AV.is x.2.2]) := by
 have hgs : ∀ i, SO (stFrom zState (l.take i)) := fun i => Ai5 BE0
 have hsz : ∀ i, (stFrom zState (l.take i)).size ≤ 300000 := fun i => by
  have h1 := Av2 (stFrom zState (l.take i))
  have h2 := Ab5 (m := 1100) (s := zState) (l := l.take i) fun r hr2 => hr r (List.mem_of_mem_take hr2)
  have h3 : phi zState = 0 := rfl
  have h4 : (l.take i).length ≤ 60 := by rw [D9]; omega
  have h5 : (l.take i).length * (3 * (1 + 1100) + 1) ≤ 60 * 3304 := Nat.mul_le_mul h4 (by decide)
  omega
 refine H3 Tryz.func148 rfl Tryz.ntmps148 rfl ?_
 refine A3 (A2 ?_)
 refine F5 rfl rfl rfl rfl Tryz.zeroValue53 rfl ?_
 intro b2
 refine A1 rfl (B6 rfl L4) ?_
 refine A4 (A3 (A2 ?_))
 refine F5 rfl rfl rfl rfl Tryz.zeroValue53 rfl ?_
 intro b4
 refine A4 (A3 (A2 ?_))
 refine S0 4 1 rfl rfl rfl rfl L4 ?_
 intro v5
 refine A4 (A3 (A3 ?_))
 refine AWP.le (BH8 1 1 2 rfl rfl O3) ?_
 refine A2 ?_
 refine A5 rfl ?_
 refine A1 rfl (F6 rfl P4 (A0 rfl)) ?_
 refine A1 rfl (B8 rfl B4) ?_
 refine A4 (C7 ?_)
 refine W5 130 5 ?_
 refine W5 132 3 ?_
 refine AWP.le (F8 [3, 1, 0, 0] rfl) ?_
 refine d8 [(2, _), (3, _), (4, _), (10, _), (11, _)] _ (fun (i : Nat) (y : Value × Value) (v : Value) (bs : List Bool) => i ≤ l.length ∧ bs = didFrom zState (l.take i) ∧ bs.length ≤ i) (fun (i : Nat) (y : Value × Value) (v : Value) (bs : List Bool) => [.box b4 53 (TState.ocs (stFrom zState (l.take i)) y), .arr y.1 130 5 ((stFrom zState (l.take i)).Held.map THeld.cs), .arr y.2 132 3 ((stFrom zState (l.take i)).Told.map TTold.cs), .arr v 4 1 (bs.map fun b => [AV.bool b])]) (fun (i : Nat) (y : Value × Value) (v : Value) (bs : List Bool) => [(5, AV.is v), (12, AV.int i)]) (fun (i : Nat) (y : Value × Value) (v : Value) (bs : List Bool) => l.length - i) (0) (((Value.slice none 0 0), (Value.slice none 0 0))) (v5) ([]) ?_ (O8 (by rfl) ⟨rfl, rfl, rfl, rfl, rfl, rfl, rfl, trivial⟩) ?_
 ·exact ⟨Nat.zero_le _, rfl, Nat.le_refl _⟩
 intro i y v bs hinv
 refine A3 (A2 ?_)
 refine A1 rfl (J8 rfl (A0 rfl) (A0 rfl)) ?_
 refine A4 (A3 ?_)
 refine B9 (A0 rfl) ?_ ?_
 ·intro h13
  have k13 := of_decide_eq_true h13; try simp only [A8] at k13
  have hlt : i < l.length := by omega
  obtain ⟨r, hx⟩ := get_some hlt
  have hgr := hr r (F9 hx)
  have hgi := hgs i
  have hsi := hsz i
  refine C3 (A3 (C7 (A3 (A2 ?_))))
  refine A1 rfl (I2 rfl P4 H8 (A0 rfl) (A0 rfl) hx (by first | omega | (simp only [C8, A7, szR] at *; omega))) ?_
  refine A1 rfl (K6 rfl (A0 rfl) O6 H8) ?_
  refine F5 rfl rfl rfl rfl Tryz.zeroValue104 rfl ?_
  intro b7
  refine D2 0 rfl rfl rfl (A0 rfl) (A0 rfl) (D6 _) rfl H8 rfl ?_
  refine A4 (A3 ?_)
  refine P2 (by first | (simp only [TState.ow, TState.ocs, pick, U0, T6, T2, S4, S2, List.nil_append, U1, T7, List.append_nil, S5, List.take_zero, S8, List.drop_zero]; exact rfl) | exact rfl) ?_
  refine A2 ?_
  refine A1 rfl (F1 1 rfl (A0 rfl) rfl F0 C5 rfl) ?_
  refine A1 rfl (F1 0 rfl (A0 rfl) rfl O6 H8 rfl) ?_
  refine H9 [2, 2] rfl rfl rfl rfl Tryz.call189 rfl (BJ9 (stFrom zState (l.take i)) y r hgi (by omega) (by omega)) (A6 (A0 rfl) (A6 (A0 rfl) C0)) rfl ?_
  intro x19 ok19
  refine A5 rfl ?_
  refine A1 rfl (G6 rfl (A0 rfl) rfl) ?_
  refine A1 rfl (G6 rfl (A0 rfl) rfl) ?_
  refine F5 rfl rfl rfl rfl Tryz.zeroValue53 rfl ?_
  intro b8
  refine D2 0 rfl rfl rfl (A0 rfl) (A0 rfl) (D6 _) rfl C5 rfl ?_
  refine B3 rfl ?_
  refine A4 (A3 (A3 ?_))
  refine P2 (by first | (simp only [TState.ow, TState.ocs, pick, U0, T6, T2, S4, S2, List.nil_append, U1, T7, List.append_nil, S5, List.take_zero, S8, List.drop_zero]; exact rfl) | exact rfl) ?_
  refine A2 ?_
  refine A5 rfl ?_
  refine A4 ?_
  refine B9 (A0 rfl) ?_ ?_
  ·intro h22
   have hstep : (applyS (stFrom zState (l.take i)) r).1 = stepS (stFrom zState (l.take i)) r := by (unfold stepS; rw [if_pos h22])
   refine P2 (by first | (simp only [TState.ow, TState.ocs, pick, U0, T6, T2, S4, S2, List.nil_append, U1, T7, List.append_nil, S5, List.take_zero, S8, List.drop_zero]; exact rfl) | exact rfl) ?_
   refine A2 ?_
   refine A1 rfl (F1 0 rfl (A0 rfl) rfl F0 C5 rfl) ?_
   refine D2 6 rfl rfl rfl (A0 rfl) (A0 rfl) (D6 _) rfl C5 rfl ?_
   refine A4 ?_
   refine P2 (by first | (simp only [TState.ow, TState.ocs, pick, U0, T6, T2, S4, S2, List.nil_append, U1, T7, List.append_nil, S5, List.take_zero, S8, List.drop_zero]; exact rfl) | exact rfl) ?_
   refine A2 ?_
   refine A5 rfl ?_
   refine A5 rfl ?_
   refine A1 rfl (K9 rfl X5 N2 Tryz.zeroValue4 rfl rfl rfl rfl (D0 (A0 rfl) (f6 _) G9) rfl rfl) ?_
   refine L2 (by' := 1) 7 rfl rfl rfl rfl X5 Tryz.type4 rfl rfl rfl rfl rfl rfl (A0 rfl) (A0 rfl) rfl (by first | omega | (simp only [C8, A7, szR] at *; omega)) ?_
   intro v27_1
   refine B3 rfl ?_
   refine A4 (A2 ?_)
   refine A1 rfl (G0 rfl (A0 rfl) B4 (by first | omega | (simp only [C8, A7, szR] at *; omega))) ?_
   refine A5 rfl ?_
   refine A4 ?_
   refine V9 i y v bs (i + 1) ((x19.1, x19.2)) (v27_1) (bs ++ [(applyS (stFrom zState (l.take i)) r).2]) ?_ ?_ (Le.trans (F8 [0, 0, 0, 2, 2, 0, 0, 0] rfl) (K0 4 (by first | (rw [List.map_append, AZ0 hx, ← hstep]; rfl) | rfl) ⟨rfl, rfl, rfl, rfl, rfl, rfl, rfl, trivial⟩))
   ·exact ⟨by omega, by rw [AU6 hx, hinv.2.1], by rw [J6]; simp; omega⟩
   omega
  intro h22
  have hstep : stFrom zState (l.take i) = stepS (stFrom zState (l.take i)) r := by (conv => rhs; unfold stepS; rw [if_neg (by rw [h22]; decide)])
  refine C3 ?_
  refine P2 (by first | (simp only [TState.ow, TState.ocs, pick, U0, T6, T2, S4, S2, List.nil_append, U1, T7, List.append_nil, S5, List.take_zero, S8, List.drop_zero]; exact rfl) | exact rfl) ?_
  refine A2 ?_
  refine A5 rfl ?_
  refine A5 rfl ?_
  refine A1 rfl (K9 rfl X5 N2 Tryz.zeroValue4 rfl rfl rfl rfl (D0 (A0 rfl) (f6 _) G9) rfl rfl) ?_
  refine L2 (by' := 1) 7 rfl rfl rfl rfl X5 Tryz.type4 rfl rfl rfl rfl rfl rfl (A0 rfl) (A0 rfl) rfl (by first | omega | (simp only [C8, A7, szR] at *; omega)) ?_
  intro v27_2
  refine B3 rfl ?_
  refine A4 (A2 ?_)
  refine A1 rfl (G0 rfl (A0 rfl) B4 (by first | omega | (simp only [C8, A7, szR] at *; omega))) ?_
  refine A5 rfl ?_
  refine A4 ?_
  refine V9 i y v bs (i + 1) ((y.1, y.2)) (v27_2) (bs ++ [(applyS (stFrom zState (l.take i)) r).2]) ?_ ?_ (Le.trans (F8 [0, 2, 2, 2, 2, 0, 0, 0] rfl) (K0 4 (by first | (rw [List.map_append, AZ0 hx, ← hstep]; rfl) | rfl) ⟨rfl, rfl, rfl, rfl, rfl, rfl, rfl, trivial⟩))
  ·exact ⟨by omega, by rw [AU6 hx, hinv.2.1], by rw [J6]; simp; omega⟩
  omega
 intro h13
 have k13 := of_decide_eq_false h13; try simp only [A8] at k13
 have hge : i = l.length := by omega
 have hbs := hinv.2.1
 rw [hge, List.take_length] at hbs
 rw [hge, List.take_length, ← hbs]
 refine G1 ?_
 refine A3 ?_
 refine P2 (by first | (simp only [TState.ow, TState.ocs, pick, U0, T6, T2, S4, S2, List.nil_append, U1, T7, List.append_nil, S5, List.take_zero, S8, List.drop_zero]; exact rfl) | exact rfl) ?_
 refine A2 ?_
 refine A1 rfl (F1 0 rfl (A0 rfl) rfl F0 C5 rfl) ?_
 refine A5 rfl ?_
 refine D2 4 rfl rfl rfl (A0 rfl) (A0 rfl) (D6 _) rfl C5 rfl ?_
 refine B3 rfl ?_
 refine A4 ?_
 refine C2 ?_
 exact L5 [1, 1, 1] (y.1, y.2, v) (trivial) rfl (by rfl) (V5 rfl (by decide) (E7 (J9 (ys := _) 4 rfl rfl F0 C5 rfl) (E7 (C1 rfl (by rfl)) M0)))
theorem BB2 (b : Nat) (code : List Int) (hcode : ByteL code) (c : TCur) (hp : c.p ≤ 2000000) : GSpec Tryz.prog 190 [AV.ptr b 0] [.box b 64 (curC code c)] (fun x : TCur × TRec => x.1.p ≤ c.p + 100 ∧ x.2.size ≤ 1000 ∧ 0 ≤ x.2.Lead ∧ x.2.Lead ≤ 3 ∧ 0 ≤ x.2.Time ∧ x.2.Time ≤ 100001) (fun x => [.box b 64 (curC code x.1)]) (fun x => AV.agg x.2.cs) :=
  AI7 (fun x => (x.1, x.2.1)) (fun x => TRec.ow x.2.1 x.2.2) (fun x => [.box b 64 (curC code x.1)]) (BI8 b code hcode c hp) (fun _ h => h) (fun x _ => Z5 (TRec.lc _ _)) (fun x _ => List.perm_append_comm (l₁ := [_])) (fun _ _ => O0 0 rfl rfl O3) (fun x _ => BD6 ⟨rfl, rfl, AE0⟩ Au2)
theorem BB3 (b : Nat) (code : List Int) (hcode : ByteL code) (c : TCur) (hp : c.p ≤ 900000) : GSpec Tryz.prog 149 [AV.ptr b 0] [.box b 64 (curC code c)] (fun x : TCur × List TRec × Value => x.1.p ≤ c.p + 1300 ∧ x.2.1.length ≤ 11 ∧ ∀ r ∈ x.2.1, r.size ≤ 1000 ∧ r.Time ≤ 33 ∧ 0 ≤ r.Lead ∧ r.Lead ≤ 3) (fun x => [.box b 64 (curC code x.1), .arr x.2.2 104 7 (x.2.1.map TRec.cs)]) (fun x => AV.is x.2.2) := by
 refine H3 Tryz.func149 rfl Tryz.ntmps149 rfl ?_
 refine A3 (A2 ?_)
 refine A1 rfl (B6 rfl L4) ?_
 refine A4 (A3 (A2 ?_))
 refine S0 104 7 rfl rfl rfl rfl L4 ?_
 intro v3
 refine A4 (A3 (A2 ?_))
 refine A1 rfl (B6 rfl B4) ?_
 refine A4 (A3 (A3 (A2 ?_)))
 refine A5 rfl ?_
 refine H9 [1] rfl rfl rfl rfl Tryz.call34 rfl (R4 _ _ hcode _ _ (by omega) (by omega)) (A6 (A0 rfl) (A6 B4 C0)) rfl ?_
 intro x9 ok9
 refine B3 rfl ?_
 refine A4 (C7 ?_)
 refine AWP.le (F8 [0, 0] rfl) ?_
 refine AX5 [(0, _), (2, _)] _ (fun (n : Int) (cc : TCur) (l : List TRec) (v : Value) (t : Int) => (0 ≤ n ∧ n + l.length ≤ 11) ∧ cc.p + 110 * n ≤ c.p + 1220 ∧ (0 ≤ t ∧ t + 3 * n ≤ 33) ∧ ∀ r ∈ l, r.size ≤ 1000 ∧ r.Time ≤ 33 ∧ 0 ≤ r.Lead ∧ r.Lead ≤ 3) (fun (n : Int) (cc : TCur) (l : List TRec) (v : Value) (t : Int) => [.box b 64 (curC code cc), .arr v 104 7 (l.map TRec.cs)]) (fun (n : Int) (cc : TCur) (l : List TRec) (v : Value) (t : Int) => [(3, AV.is v), (4, AV.int t), (5, AV.int n)]) (fun (n : Int) (cc : TCur) (l : List TRec) (v : Value) (t : Int) => n.toNat) (x9.2) (x9.1) ([]) (v3) (0) ?_ (O8 (by rfl) ⟨rfl, rfl, rfl, rfl, rfl, trivial⟩) ?_
 ·exact ⟨⟨by omega, by simp; omega⟩, by omega, ⟨by omega, by omega⟩, fun r hr => by cases hr⟩
 intro n cc l v t hinv
 refine A3 (A3 (A2 ?_))
 refine A5 rfl ?_
 refine A1 rfl (R8 rfl (A0 rfl) B4) ?_
 refine A4 ?_
 refine B9 (A0 rfl) ?_ ?_
 ·intro h11
  have k11 := of_decide_eq_true h11; try simp only [A8] at k11
  refine C3 (A3 (C7 (A3 (A2 ?_))))
  refine A5 rfl ?_
  refine H9 [0] rfl rfl rfl rfl Tryz.call190 rfl (BB2 _ _ hcode _ (by omega)) (A6 (A0 rfl) C0) rfl ?_
  intro x15 ok15
  refine F5 rfl rfl rfl rfl Tryz.zeroValue104 rfl ?_
  intro b6
  refine D2 0 rfl rfl rfl (A0 rfl) (A0 rfl) (D6 _) rfl H8 rfl ?_
  refine A4 (A3 (A2 ?_))
  refine A5 rfl ?_
  refine A5 rfl ?_
  refine H9 [1] rfl rfl rfl rfl Tryz.call34 rfl (R4 _ _ hcode _ _ (by omega) (by omega)) (A6 (A0 rfl) (A6 B4 C0)) rfl ?_
  intro x18 ok18
  refine A1 rfl (G0 rfl B4 (A0 rfl) (by first | omega | (simp only [C8, A7, szR] at *; omega))) ?_
  refine A1 rfl (G0 rfl (A0 rfl) (A0 rfl) (by first | omega | (simp only [C8, A7, szR] at *; omega))) ?_
  refine B3 rfl ?_
  refine A4 (A3 (A3 (A2 ?_)))
  refine A1 rfl (B1 2 rfl B7 rfl B5 (A0 rfl) rfl) ?_
  refine A1 rfl (B0 1 rfl (A0 rfl) rfl C6 rfl) ?_
  refine A1 rfl (R8 rfl (A0 rfl) B4) ?_
  refine A4 ?_
  refine B9 (A0 rfl) ?_ ?_
  ·intro h23
   have k23 := of_decide_eq_true h23; try simp only [A8] at k23
   refine A2 ?_
   refine A5 rfl ?_
   refine A1 rfl (B1 2 rfl B7 rfl B5 (A0 rfl) rfl) ?_
   refine K8 1 rfl rfl rfl (A0 rfl) (A0 rfl) (L8 _ _) rfl B5 rfl ?_
   refine A4 (A3 (A3 (A2 ?_)))
   refine A1 rfl (B1 0 rfl B7 rfl B5 (A0 rfl) rfl) ?_
   refine A1 rfl (B0 1 rfl (A0 rfl) rfl C6 rfl) ?_
   refine A1 rfl (O1 rfl (A0 rfl) B4) ?_
   refine A5 rfl ?_
   refine F3 rfl (fun hc => B1 0 rfl B7 rfl B5 (A0 rfl) rfl) ?_
   refine F3 rfl (fun hc => B0 1 rfl (A9 rfl hc) rfl C6 rfl) ?_
   refine F3 rfl (fun hc => O1 rfl (A9 rfl hc) B4) ?_
   refine A1 rfl (Q8 rfl (A0 rfl) (F7 rfl)) ?_
   refine A5 rfl ?_
   refine D3 rfl (fun hc => B8 rfl (A0 rfl)) ?_
   refine D3 rfl (fun hc => W4 2 rfl P4 (A9 rfl hc) rfl) ?_
   refine D3 rfl (fun hc => R8 rfl (A9 rfl hc) B4) ?_
   refine A1 rfl (J5 rfl (A0 rfl) (F7 rfl)) ?_
   refine A4 ?_
   refine B9 (A0 rfl) ?_ ?_
   ·intro h38
    have hll : 0 < l.length := by (cases hm : l with | nil => (rw [hm] at h38; simp at h38) | cons y q => simp)
    refine A3 (A2 ?_)
    refine A5 rfl ?_
    refine A5 rfl ?_
    refine A5 rfl ?_
    refine A1 rfl (W4 2 rfl P4 (A0 rfl) rfl) ?_
    refine H9 [0] rfl rfl rfl rfl Tryz.call34 rfl (R4 _ _ hcode _ _ (by simp only [A8]; omega) (by omega)) (A6 (A0 rfl) (A6 (A0 rfl) C0)) rfl ?_
    intro x43 ok43
    have hix : x43.2.toNat < l.length := by (have h9 := ok43.2; simp only [A8] at h9; omega)
    obtain ⟨z, hz⟩ := get_some hix
    have hrow : (l.map TRec.cs)[x43.2.toNat]? = some z.cs := by (rw [List.getElem?_map, hz]; rfl)
    refine A1 rfl (U7 2 rfl P4 H8 (A0 rfl) rfl (A0 rfl) (by omega) (by first | omega | (simp only [A8]; omega))) ?_
    refine A1 rfl (c0 2 rfl (A0 rfl) rfl O6 H8 hrow (by decide)) ?_
    refine F5 rfl rfl rfl rfl Tryz.zeroValue104 rfl ?_
    intro b7
    refine D2 0 rfl rfl rfl (A0 rfl) (A0 rfl) (D6 _) rfl H8 rfl ?_
    refine A4 (A3 (A2 ?_))
    refine A1 rfl (B1 0 rfl B7 rfl B5 (A0 rfl) rfl) ?_
    refine A1 rfl (B0 0 rfl (A0 rfl) rfl C6 rfl) ?_
    refine A1 rfl (O1 rfl (A0 rfl) B4) ?_
    refine A4 ?_
    refine B9 (A0 rfl) ?_ ?_
    ·intro h48
     have k48 := M7 h48; try simp only [A8] at k48
     refine A2 ?_
     refine A1 rfl (B1 1 rfl B7 rfl B5 (A0 rfl) rfl) ?_
     refine A1 rfl (B0 0 rfl (A0 rfl) rfl C6 rfl) ?_
     refine A1 rfl (B1 1 rfl B7 rfl B5 (A0 rfl) rfl) ?_
     refine K8 2 rfl rfl rfl (A0 rfl) (A0 rfl) (L8 _ _) rfl B5 rfl ?_
     refine A4 (A2 ?_)
     refine A5 rfl ?_
     refine A1 rfl (F1 2 rfl (A0 rfl) rfl O6 H8 rfl) ?_
     refine A1 rfl (K9 rfl P4 H8 Tryz.zeroValue104 rfl rfl rfl rfl (D0 (A0 rfl) (D6 _) G9) rfl rfl) ?_
     refine L2 (by' := 88) 3 rfl rfl rfl rfl P4 Tryz.type104 rfl rfl rfl rfl rfl rfl (A0 rfl) (A0 rfl) rfl (by first | omega | (simp only [C8, A7, szR] at *; omega)) ?_
     intro v55_1
     refine B3 rfl ?_
     refine A4 (A2 ?_)
     refine A5 rfl ?_
     refine A1 rfl (R7 rfl (A0 rfl) B4 (by first | omega | (simp only [C8, A7, szR] at *; omega))) ?_
     refine B3 rfl ?_
     refine A4 ?_
     refine k6 n cc l v t (n - 1) (x43.1) (l ++ [⟨x15.2.Kind, z.Txn, t + (1 + x18.2), x15.2.Lead, x15.2.Reads, x15.2.Writes, x15.2.Yes⟩]) (v55_1) (t + (1 + x18.2)) ?_ ?_ (Le.trans (F8 [0, 1, 0, 0] rfl) (K0 2 (by (rw [List.map_append]; rfl)) ⟨rfl, rfl, rfl, rfl, rfl, trivial⟩))
     ·exact ⟨⟨by omega, by rw [J6]; simp; omega⟩, by omega, ⟨by omega, by omega⟩, fun q hq => by (rcases List.mem_append.1 hq with hq | hq; (exact hinv.2.2.2 q hq); (rw [List.mem_singleton.1 hq]; exact ⟨ok15.2.1, by first | (dsimp only; omega) | omega, ok15.2.2.1, ok15.2.2.2.1⟩))⟩
     omega
    intro h48
    have k48 := M6 h48; try simp only [A8] at k48
    refine C3 (A2 ?_)
    refine A5 rfl ?_
    refine A1 rfl (F1 2 rfl (A0 rfl) rfl O6 H8 rfl) ?_
    refine A1 rfl (K9 rfl P4 H8 Tryz.zeroValue104 rfl rfl rfl rfl (D0 (A0 rfl) (D6 _) G9) rfl rfl) ?_
    refine L2 (by' := 88) 3 rfl rfl rfl rfl P4 Tryz.type104 rfl rfl rfl rfl rfl rfl (A0 rfl) (A0 rfl) rfl (by first | omega | (simp only [C8, A7, szR] at *; omega)) ?_
    intro v55_2
    refine B3 rfl ?_
    refine A4 (A2 ?_)
    refine A5 rfl ?_
    refine A1 rfl (R7 rfl (A0 rfl) B4 (by first | omega | (simp only [C8, A7, szR] at *; omega))) ?_
    refine B3 rfl ?_
    refine A4 ?_
    refine k6 n cc l v t (n - 1) (x43.1) (l ++ [⟨x15.2.Kind, x15.2.Txn, t + (1 + x18.2), x15.2.Lead, x15.2.Reads, x15.2.Writes, x15.2.Yes⟩]) (v55_2) (t + (1 + x18.2)) ?_ ?_ (Le.trans (F8 [0, 1, 0, 0] rfl) (K0 2 (by (rw [List.map_append]; rfl)) ⟨rfl, rfl, rfl, rfl, rfl, trivial⟩))
    ·exact ⟨⟨by omega, by rw [J6]; simp; omega⟩, by omega, ⟨by omega, by omega⟩, fun q hq => by (rcases List.mem_append.1 hq with hq | hq; (exact hinv.2.2.2 q hq); (rw [List.mem_singleton.1 hq]; exact ⟨ok15.2.1, by first | (dsimp only; omega) | omega, ok15.2.2.1, ok15.2.2.2.1⟩))⟩
    omega
   intro h38
   refine C3 (A2 ?_)
   refine A5 rfl ?_
   refine A1 rfl (F1 1 rfl (A0 rfl) rfl O6 H8 rfl) ?_
   refine A1 rfl (K9 rfl P4 H8 Tryz.zeroValue104 rfl rfl rfl rfl (D0 (A0 rfl) (D6 _) G9) rfl rfl) ?_
   refine L2 (by' := 88) 2 rfl rfl rfl rfl P4 Tryz.type104 rfl rfl rfl rfl rfl rfl (A0 rfl) (A0 rfl) rfl (by first | omega | (simp only [C8, A7, szR] at *; omega)) ?_
   intro v55_3
   refine B3 rfl ?_
   refine A4 (A2 ?_)
   refine A5 rfl ?_
   refine A1 rfl (R7 rfl (A0 rfl) B4 (by first | omega | (simp only [C8, A7, szR] at *; omega))) ?_
   refine B3 rfl ?_
   refine A4 ?_
   refine k6 n cc l v t (n - 1) (x18.1) (l ++ [⟨x15.2.Kind, x15.2.Txn, t + (1 + x18.2), x15.2.Lead, x15.2.Reads, x15.2.Writes, x15.2.Yes⟩]) (v55_3) (t + (1 + x18.2)) ?_ ?_ (Le.trans (F8 [1, 0, 0] rfl) (K0 1 (by (rw [List.map_append]; rfl)) ⟨rfl, rfl, rfl, rfl, rfl, trivial⟩))
   ·exact ⟨⟨by omega, by rw [J6]; simp; omega⟩, by omega, ⟨by omega, by omega⟩, fun q hq => by (rcases List.mem_append.1 hq with hq | hq; (exact hinv.2.2.2 q hq); (rw [List.mem_singleton.1 hq]; exact ⟨ok15.2.1, by first | (dsimp only; omega) | omega, ok15.2.2.1, ok15.2.2.2.1⟩))⟩
   omega
  intro h23
  have k23 := of_decide_eq_false h23; try simp only [A8] at k23
  refine C3 (A3 (A3 (A2 ?_)))
  refine A1 rfl (B1 0 rfl B7 rfl B5 (A0 rfl) rfl) ?_
  refine A1 rfl (B0 1 rfl (A0 rfl) rfl C6 rfl) ?_
  refine A1 rfl (O1 rfl (A0 rfl) B4) ?_
  refine A5 rfl ?_
  refine F3 rfl (fun hc => B1 0 rfl B7 rfl B5 (A0 rfl) rfl) ?_
  refine F3 rfl (fun hc => B0 1 rfl (A9 rfl hc) rfl C6 rfl) ?_
  refine F3 rfl (fun hc => O1 rfl (A9 rfl hc) B4) ?_
  refine A1 rfl (Q8 rfl (A0 rfl) (F7 rfl)) ?_
  refine A5 rfl ?_
  refine D3 rfl (fun hc => B8 rfl (A0 rfl)) ?_
  refine D3 rfl (fun hc => W4 2 rfl P4 (A9 rfl hc) rfl) ?_
  refine D3 rfl (fun hc => R8 rfl (A9 rfl hc) B4) ?_
  refine A1 rfl (J5 rfl (A0 rfl) (F7 rfl)) ?_
  refine A4 ?_
  refine B9 (A0 rfl) ?_ ?_
  ·intro h38
   have hll : 0 < l.length := by (cases hm : l with | nil => (rw [hm] at h38; simp at h38) | cons y q => simp)
   refine A3 (A2 ?_)
   refine A5 rfl ?_
   refine A5 rfl ?_
   refine A5 rfl ?_
   refine A1 rfl (W4 2 rfl P4 (A0 rfl) rfl) ?_
   refine H9 [0] rfl rfl rfl rfl Tryz.call34 rfl (R4 _ _ hcode _ _ (by simp only [A8]; omega) (by omega)) (A6 (A0 rfl) (A6 (A0 rfl) C0)) rfl ?_
   intro x43 ok43
   have hix : x43.2.toNat < l.length := by (have h9 := ok43.2; simp only [A8] at h9; omega)
   obtain ⟨z, hz⟩ := get_some hix
   have hrow : (l.map TRec.cs)[x43.2.toNat]? = some z.cs := by (rw [List.getElem?_map, hz]; rfl)
   refine A1 rfl (U7 2 rfl P4 H8 (A0 rfl) rfl (A0 rfl) (by omega) (by first | omega | (simp only [A8]; omega))) ?_
   refine A1 rfl (c0 2 rfl (A0 rfl) rfl O6 H8 hrow (by decide)) ?_
   refine F5 rfl rfl rfl rfl Tryz.zeroValue104 rfl ?_
   intro b7
   refine D2 0 rfl rfl rfl (A0 rfl) (A0 rfl) (D6 _) rfl H8 rfl ?_
   refine A4 (A3 (A2 ?_))
   refine A1 rfl (B1 0 rfl B7 rfl B5 (A0 rfl) rfl) ?_
   refine A1 rfl (B0 0 rfl (A0 rfl) rfl C6 rfl) ?_
   refine A1 rfl (O1 rfl (A0 rfl) B4) ?_
   refine A4 ?_
   refine B9 (A0 rfl) ?_ ?_
   ·intro h48
    have k48 := M7 h48; try simp only [A8] at k48
    refine A2 ?_
    refine A1 rfl (B1 1 rfl B7 rfl B5 (A0 rfl) rfl) ?_
    refine A1 rfl (B0 0 rfl (A0 rfl) rfl C6 rfl) ?_
    refine A1 rfl (B1 1 rfl B7 rfl B5 (A0 rfl) rfl) ?_
    refine K8 2 rfl rfl rfl (A0 rfl) (A0 rfl) (L8 _ _) rfl B5 rfl ?_
    refine A4 (A2 ?_)
    refine A5 rfl ?_
    refine A1 rfl (F1 2 rfl (A0 rfl) rfl O6 H8 rfl) ?_
    refine A1 rfl (K9 rfl P4 H8 Tryz.zeroValue104 rfl rfl rfl rfl (D0 (A0 rfl) (D6 _) G9) rfl rfl) ?_
    refine L2 (by' := 88) 3 rfl rfl rfl rfl P4 Tryz.type104 rfl rfl rfl rfl rfl rfl (A0 rfl) (A0 rfl) rfl (by first | omega | (simp only [C8, A7, szR] at *; omega)) ?_
    intro v55_4
    refine B3 rfl ?_
    refine A4 (A2 ?_)
    refine A5 rfl ?_
    refine A1 rfl (R7 rfl (A0 rfl) B4 (by first | omega | (simp only [C8, A7, szR] at *; omega))) ?_
    refine B3 rfl ?_
    refine A4 ?_
    refine k6 n cc l v t (n - 1) (x43.1) (l ++ [⟨x15.2.Kind, z.Txn, x15.2.Time, x15.2.Lead, x15.2.Reads, x15.2.Writes, x15.2.Yes⟩]) (v55_4) (t + (1 + x18.2)) ?_ ?_ (Le.trans (F8 [0, 1, 0, 0] rfl) (K0 2 (by (rw [List.map_append]; rfl)) ⟨rfl, rfl, rfl, rfl, rfl, trivial⟩))
    ·exact ⟨⟨by omega, by rw [J6]; simp; omega⟩, by omega, ⟨by omega, by omega⟩, fun q hq => by (rcases List.mem_append.1 hq with hq | hq; (exact hinv.2.2.2 q hq); (rw [List.mem_singleton.1 hq]; exact ⟨ok15.2.1, by first | (dsimp only; omega) | omega, ok15.2.2.1, ok15.2.2.2.1⟩))⟩
    omega
   intro h48
   have k48 := M6 h48; try simp only [A8] at k48
   refine C3 (A2 ?_)
   refine A5 rfl ?_
   refine A1 rfl (F1 2 rfl (A0 rfl) rfl O6 H8 rfl) ?_
   refine A1 rfl (K9 rfl P4 H8 Tryz.zeroValue104 rfl rfl rfl rfl (D0 (A0 rfl) (D6 _) G9) rfl rfl) ?_
   refine L2 (by' := 88) 3 rfl rfl rfl rfl P4 Tryz.type104 rfl rfl rfl rfl rfl rfl (A0 rfl) (A0 rfl) rfl (by first | omega | (simp only [C8, A7, szR] at *; omega)) ?_
   intro v55_5
   refine B3 rfl ?_
   refine A4 (A2 ?_)
   refine A5 rfl ?_
   refine A1 rfl (R7 rfl (A0 rfl) B4 (by first | omega | (simp only [C8, A7, szR] at *; omega))) ?_
   refine B3 rfl ?_
   refine A4 ?_
   refine k6 n cc l v t (n - 1) (x43.1) (l ++ [⟨x15.2.Kind, x15.2.Txn, x15.2.Time, x15.2.Lead, x15.2.Reads, x15.2.Writes, x15.2.Yes⟩]) (v55_5) (t + (1 + x18.2)) ?_ ?_ (Le.trans (F8 [0, 1, 0, 0] rfl) (K0 2 (by (rw [List.map_append]; rfl)) ⟨rfl, rfl, rfl, rfl, rfl, trivial⟩))
   ·exact ⟨⟨by omega, by rw [J6]; simp; omega⟩, by omega, ⟨by omega, by omega⟩, fun q hq => by (rcases List.mem_append.1 hq with hq | hq; (exact hinv.2.2.2 q hq); (rw [List.mem_singleton.1 hq]; exact ⟨ok15.2.1, by first | (dsimp only; omega) | omega, ok15.2.2.1, ok15.2.2.2.1⟩))⟩
   omega
  intro h38
  refine C3 (A2 ?_)
  refine A5 rfl ?_
  refine A1 rfl (F1 1 rfl (A0 rfl) rfl O6 H8 rfl) ?_
  refine A1 rfl (K9 rfl P4 H8 Tryz.zeroValue104 rfl rfl rfl rfl (D0 (A0 rfl) (D6 _) G9) rfl rfl) ?_
  refine L2 (by' := 88) 2 rfl rfl rfl rfl P4 Tryz.type104 rfl rfl rfl rfl rfl rfl (A0 rfl) (A0 rfl) rfl (by first | omega | (simp only [C8, A7, szR] at *; omega)) ?_
  intro v55_6
  refine B3 rfl ?_
  refine A4 (A2 ?_)
  refine A5 rfl ?_
  refine A1 rfl (R7 rfl (A0 rfl) B4 (by first | omega | (simp only [C8, A7, szR] at *; omega))) ?_
  refine B3 rfl ?_
  refine A4 ?_
  refine k6 n cc l v t (n - 1) (x18.1) (l ++ [⟨x15.2.Kind, x15.2.Txn, x15.2.Time, x15.2.Lead, x15.2.Reads, x15.2.Writes, x15.2.Yes⟩]) (v55_6) (t + (1 + x18.2)) ?_ ?_ (Le.trans (F8 [1, 0, 0] rfl) (K0 1 (by (rw [List.map_append]; rfl)) ⟨rfl, rfl, rfl, rfl, rfl, trivial⟩))
  ·exact ⟨⟨by omega, by rw [J6]; simp; omega⟩, by omega, ⟨by omega, by omega⟩, fun q hq => by (rcases List.mem_append.1 hq with hq | hq; (exact hinv.2.2.2 q hq); (rw [List.mem_singleton.1 hq]; exact ⟨ok15.2.1, by first | (dsimp only; omega) | omega, ok15.2.2.1, ok15.2.2.2.1⟩))⟩
  omega
 intro h11
 have k11 := of_decide_eq_false h11; try simp only [A8] at k11
 refine G1 ?_
 refine A3 (A2 ?_)
 refine A5 rfl ?_
 refine B3 rfl ?_
 refine A4 ?_
 refine C2 ?_
 (refine L5 [0, 0] ((cc, l, v)) ?_ rfl (by first | (dsimp only; rfl) | rfl) (P0 rfl (C1 rfl (by rfl))); exact ⟨show cc.p ≤ _ by omega, show l.length ≤ 11 by omega, hinv.2.2.2⟩)
theorem Ax5 (b : Nat) (code : List Int) (hcode : ByteL code) (c : TCur) (hp : c.p ≤ 900000) : GSpec Tryz.prog 110 [AV.ptr b 0] [.box b 64 (curC code c)] (fun x : TCur × TState × Value × Value => x.1.p ≤ c.p + 1300 ∧ SO x.2.1 ∧ SB 33 x.2.1 ∧ x.2.1.size ≤ 33044) (fun x => .box b 64 (curC code x.1) :: TState.ow x.2.1 x.2.2) (fun x => AV.agg (TState.ocs x.2.1 x.2.2)) := by
 refine H3 Tryz.func110 rfl Tryz.ntmps110 rfl ?_
 refine A3 (A2 ?_)
 refine F5 rfl rfl rfl rfl Tryz.zeroValue53 rfl ?_
 intro b2
 refine A4 (A3 (A2 ?_))
 refine A5 rfl ?_
 refine H9 [1] rfl rfl rfl rfl Tryz.call149 rfl (BB3 _ _ hcode _ (by omega)) (A6 (A0 rfl) C0) rfl ?_
 intro x7 ok7
 refine r8 (X6 [1] 7 rfl rfl (M8 (F9 (i := 0) rfl) I7) (O0 0 rfl rfl O3)) ?_
 refine H9 [] rfl rfl rfl rfl Tryz.call148 rfl (ofK_own x7.2.1 (by omega) (fun r hr => by have := (ok7.2.2 r hr).1; omega)) (A6 (A0 rfl) C0) rfl ?_
 intro x8 ok8
 refine A5 rfl ?_
 refine A1 rfl (G6 rfl (A0 rfl) rfl) ?_
 refine A1 rfl (G6 rfl (A0 rfl) rfl) ?_
 refine F5 rfl rfl rfl rfl Tryz.zeroValue53 rfl ?_
 intro b3
 refine D2 0 rfl rfl rfl (A0 rfl) (A0 rfl) (D6 _) rfl C5 rfl ?_
 refine B3 rfl ?_
 refine A4 (A3 ?_)
 refine P2 (by first | (simp only [TState.ow, TState.ocs, pick, U0, T6, T2, S4, S2, List.nil_append, U1, T7, List.append_nil, S5, List.take_zero, S8, List.drop_zero]; exact rfl) | exact rfl) ?_
 refine A2 ?_
 refine A1 rfl (F1 0 rfl (A0 rfl) rfl F0 C5 rfl) ?_
 refine D2 5 rfl rfl rfl (A0 rfl) (A0 rfl) (D6 _) rfl C5 rfl ?_
 refine A4 ?_
 refine C2 ?_
 (refine L5 [4, 1, 1] ((x7.1, stFrom zState x7.2.1, x8.1, x8.2.1)) ?_ rfl (by first | (dsimp only; rfl) | rfl) (P0 rfl (J9 (ys := _) 5 rfl rfl F0 C5 rfl)); exact ⟨ok7.1, Ai5 BE0, BE4 ⟨⟨by decide, by decide⟩, fun h hm => by cases hm⟩ (fun r hr => ⟨(ok7.2.2 r hr).2.1, (ok7.2.2 r hr).2.2⟩), Nat.le_trans (Av2 _) (st_phi ok7.2.1 fun r hr => (ok7.2.2 r hr).1)⟩)
end Go.Proofs.YtoaoicnnimjbeaaGreat

namespace Go.Proofs.YtoaoicnnimjbeaaGreat
open Go Go.AV Go.M
attribute [local irreducible] OpW OpA OpS AWP FSpec ESpec GSpec OpE RetOk RetOkG RvDen Le Ev GuardIs SrcIs
end Go.Proofs.YtoaoicnnimjbeaaGreat

namespace Go.Proofs.YtoaoicnnimjbeaaGreat
open Go Go.AV Go.M
attribute [local irreducible] OpW OpA OpS AWP FSpec ESpec GSpec OpE RetOk RetOkG RvDen Le Ev GuardIs SrcIs
end Go.Proofs.YtoaoicnnimjbeaaGreat

namespace Go.Proofs.YtoaoicnnimjbeaaGreat
open Go Go.AV Go.M
attribute [local irreducible] OpW OpA OpS AWP FSpec ESpec GSpec OpE RetOk RetOkG RvDen Le Ev GuardIs SrcIs Int.tmod IntKind.wrap bandI
end Go.Proofs.YtoaoicnnimjbeaaGreat

set_option maxHeartbeats 1000000
namespace Go.Proofs.YtoaoicnnimjbeaaGreat
open Go Go.AV Go.M
attribute [local irreducible] OpW OpA OpS AWP FSpec ESpec GSpec OpE RetOk RetOkG RvDen Le Ev GuardIs SrcIs
end Go.Proofs.YtoaoicnnimjbeaaGreat

namespace Go.Proofs.YtoaoicnnimjbeaaGreat
open Go Go.AV Go.M
attribute [local irreducible] OpW OpA OpS AWP FSpec ESpec GSpec OpE RetOk RetOkG RvDen Le Ev GuardIs SrcIs
end Go.Proofs.YtoaoicnnimjbeaaGreat

namespace Go.Proofs.YtoaoicnnimjbeaaGreat
open Go Go.AV Go.M
attribute [local irreducible] OpW OpA OpS AWP FSpec ESpec GSpec OpE RetOk RetOkG RvDen Le Ev GuardIs SrcIs Int.tmod IntKind.wrap bandI
end Go.Proofs.YtoaoicnnimjbeaaGreat

set_option maxHeartbeats 2000000
namespace Go.M
open Go.AV
theorem told_row {l : List TTold} (h : 0 < l.length) : ∃ t, l[0]? = some t ∧ (l.map TTold.cs)[(0 : Int).toNat]? = some t.cs := by
  obtain ⟨t, ht⟩ := get_some h
  exact ⟨t, ht, by show (l.map TTold.cs)[0]? = _; rw [List.getElem?_map, ht]; rfl⟩
end Go.M
namespace Go.Proofs.YtoaoicnnimjbeaaGreat
open Go Go.AV Go.M
attribute [local irreducible] OpW OpA OpS AWP FSpec ESpec GSpec OpE RetOk RetOkG RvDen Le Ev GuardIs SrcIs SrcE Int.tmod Int.tdiv IntKind.wrap bandI
theorem AH9 (b : Nat) (code : List Int) (hcode : ByteL code) (c : TCur) (hp : c.p ≤ 800000) : GSpec Tryz.prog 78 [AV.ptr b 0] [.box b 64 (curC code c)] (fun x : TCur × TState => x.1.p ≤ c.p + 1310 ∧ x.2.size ≤ 33045 ∧ SB 100001 x.2) (fun x => [.box b 64 (curC code x.1)]) (fun x => AV.agg x.2.cs) := by
 refine H3 Tryz.func78 rfl Tryz.ntmps78 rfl ?_
 refine A3 (A2 ?_)
 refine F5 rfl rfl rfl rfl Tryz.zeroValue53 rfl ?_
 intro b2
 refine A4 (A3 (A2 ?_))
 refine A5 rfl ?_
 refine H9 [1] rfl rfl rfl rfl Tryz.call110 rfl (Ax5 _ _ hcode _ (by omega)) (A6 (A0 rfl) C0) rfl ?_
 intro x5 ok5
 obtain ⟨hp5, hso, ⟨hf5, hl5⟩, hs5⟩ := ok5
 obtain ⟨q1, q2, q3, q4, q5⟩ := X0 hs5
 refine F5 rfl rfl rfl rfl Tryz.zeroValue53 rfl ?_
 intro b3
 refine D2 0 rfl rfl rfl (A0 rfl) (A0 rfl) (D6 _) rfl C5 rfl ?_
 refine A4 (A3 (A3 ?_))
 refine P2 (by first | (simp only [TState.ow, TState.ocs, pick, U0, T6, T2, S4, S2, List.nil_append, U1, T7, List.append_nil, S5, List.take_zero, S8, List.drop_zero]; exact rfl) | exact rfl) ?_
 refine A2 ?_
 refine A5 rfl ?_
 refine H9 [1] rfl rfl rfl rfl Tryz.call34 rfl (R4 _ _ hcode _ _ (by omega) (by omega)) (A6 (A0 rfl) (A6 B4 C0)) rfl ?_
 intro x7 ok7
 refine A4 (C7 (A3 (A2 ?_)))
 refine A1 rfl (O1 rfl (A0 rfl) B4) ?_
 refine B3 rfl ?_
 refine A4 ?_
 refine B9 (A0 rfl) ?_ ?_
 ·intro h8
  have k8 := M7 h8; try simp only [A8] at k8
  refine A2 ?_
  refine A5 rfl ?_
  refine A1 rfl (K9 rfl I4 B5 Tryz.zeroValue3 rfl rfl rfl rfl (D0 B4 (L8 _ _) (D0 B4 (L8 _ _) (D0 B4 (L8 _ _) (D0 B4 (L8 _ _) G9)))) rfl rfl) ?_
  refine H9 [0] rfl rfl rfl rfl Tryz.call111 rfl (AF3 _ _ hcode _ ([(0), (1), (100000), (100001)] : List Int) (by decide) (by omega)) (A6 (A0 rfl) (A6 (A0 rfl) C0)) rfl ?_
  intro x12 ok12
  refine A1 rfl (B1 0 rfl C4 rfl B5 (A0 rfl) rfl) ?_
  refine K8 1 rfl rfl rfl (A0 rfl) (A0 rfl) (L8 _ _) rfl B5 rfl ?_
  refine A4 (A3 ?_)
  refine P2 (by first | (simp only [TState.ow, TState.ocs, pick, U0, T6, T2, S4, S2, List.nil_append, U1, T7, List.append_nil, S5, List.take_zero, S8, List.drop_zero]; exact rfl) | exact rfl) ?_
  refine A2 ?_
  refine A1 rfl (F1 1 rfl (A0 rfl) rfl F0 C5 rfl) ?_
  refine r8 (X6 [2, 2] 42 rfl rfl (Z5 (G4 M4 (G4 M4 (G4 (M8 (F9 (i := 0) rfl) I7) (G4 (M8 (F9 (i := 1) rfl) I7) U3))))) (O0 0 rfl rfl O3)) ?_
  refine D2 2 rfl rfl rfl (A0 rfl) (A0 rfl) (D6 _) rfl C5 rfl ?_
  refine A4 ?_
  refine C2 ?_
  (refine L5 [0] ((x12.1, ⟨x12.2, x5.2.1.Cells, x5.2.1.Held, x5.2.1.Told⟩)) ?_ rfl (by first | (dsimp only; rfl) | rfl) (P0 rfl (J9 (ys := _) 2 rfl rfl F0 C5 (by first | rfl | (dsimp only [TState.cs]; rw [List.map_append]; rfl)))); (have hsz9 : sizeL TCell.size x5.2.1.Cells + sizeL THeld.size x5.2.1.Held + x5.2.1.Told.length ≤ 33044 := hs5; first | exact ⟨by dsimp only; omega, by show sizeL TCell.size _ + sizeL THeld.size _ + _ ≤ 33045; dsimp only; omega, ⟨⟨by dsimp only; omega, by dsimp only; omega⟩, hl5⟩⟩ | exact ⟨by dsimp only; omega, by show sizeL TCell.size _ + sizeL THeld.size _ + _ ≤ 33045; dsimp only; rw [J6]; simp only [I5, N4]; omega, ⟨⟨by dsimp only; omega, by dsimp only; omega⟩, hl5⟩⟩ | exact ⟨by dsimp only; omega, by show sizeL TCell.size _ + sizeL THeld.size _ + _ ≤ 33045; dsimp only; exact Nat.le_trans hsz9 (by decide), ⟨⟨by have h9 := ok12.2; simp at h9; dsimp only; omega, by have h9 := ok12.2; simp at h9; dsimp only; omega⟩, hl5⟩⟩ | exact ⟨by dsimp only; omega, by show sizeL TCell.size _ + sizeL THeld.size _ + _ ≤ 33045; (rw [hh0, N7] at hsz9; dsimp only; rw [N7]; exact Nat.le_trans hsz9 (by decide)), ⟨⟨by dsimp only; omega, by dsimp only; omega⟩, fun k hk => by (rcases List.mem_cons.1 hk with rfl | hk; (exact hl5 h0 (by rw [hh0]; exact List.mem_cons_self)); (exact hl5 k (by rw [hh0]; exact List.mem_cons_of_mem _ hk)))⟩⟩))
 intro h8
 have k8 := M6 h8; try simp only [A8] at k8
 refine A3 (A2 ?_)
 refine A1 rfl (O1 rfl (A0 rfl) B4) ?_
 refine B3 rfl ?_
 refine A4 ?_
 refine B9 (A0 rfl) ?_ ?_
 ·intro h14
  have k14 := M7 h14; try simp only [A8] at k14
  refine A3 (A2 ?_)
  refine A1 rfl (B1 2 rfl C4 rfl G8 (A0 rfl) rfl) ?_
  refine A1 rfl (B0 1 rfl (A0 rfl) rfl M5 rfl) ?_
  refine A1 rfl (W4 2 rfl E4 (A0 rfl) rfl) ?_
  refine A1 rfl (R8 rfl (A0 rfl) B4) ?_
  refine A4 ?_
  refine B9 (A0 rfl) ?_ ?_
  ·intro h19
   have k19 := of_decide_eq_true h19; try simp only [A8] at k19
   obtain ⟨h0, hs0, hh0⟩ : ∃ h0 hs0, x5.2.1.Held = h0 :: hs0 := by (cases hm : x5.2.1.Held with | nil => (rw [hm] at h19; simp at h19) | cons y q => exact ⟨y, q, rfl⟩)
   have hA : ([] : List (List AV)).length = (0 : Int).toNat := rfl
   rw [show x5.2.1.Held.map THeld.cs = [] ++ h0.cs :: hs0.map THeld.cs from by rw [hh0]; rfl]
   refine AWP.le (F8 [1, 1] rfl) ?_
   refine V3 _ [(0, false), (1, false), (2, false), (3, false), (4, true)] (by kernel_rfl) (by kernel_rfl) rfl (V2 2) ?_
   refine H7 rfl rfl rfl (fun ext => B1 2 rfl C4 rfl G8 (A0 rfl) rfl) ?_
   refine H7 rfl rfl rfl (fun ext => B0 0 rfl (A0 rfl) rfl M5 rfl) ?_
   refine H7 rfl rfl rfl (fun ext => B8 rfl (A0 rfl)) ?_
   refine H7 rfl rfl rfl (fun ext => K9 rfl I4 B5 Tryz.zeroValue3 rfl rfl rfl rfl (D0 B4 (L8 _ _) (D0 B4 (L8 _ _) (D0 B4 (L8 _ _) G9))) rfl rfl) ?_
   refine V4 rfl rfl rfl (Y0 [2] rfl Tryz.call111 rfl (AF3 _ _ hcode _ ([(0), (1), (100)] : List Int) (by decide) (by omega)) (A6 (A0 rfl) (A6 (A0 rfl) C0)) rfl) (fun a _ => (by first | exact E1 rfl | exact E1 (List.append_assoc _ _ _) | exact H6)) ?_
   intro x24 ok24
   refine l4 ?_
   refine A1 rfl (U7 1 rfl E4 D5 (A0 rfl) rfl B4 (by omega) (by simp)) ?_
   refine A1 rfl (AE7 1 rfl G2 rfl B5 (A0 rfl) rfl rfl (u3 hA)) ?_
   refine AN1 1 rfl rfl rfl (A0 rfl) (A0 rfl) (L8 _ _) rfl B5 hA rfl ?_
   refine A4 (A3 ?_)
   refine P2 (by first | (simp only [TState.ow, TState.ocs, pick, U0, T6, T2, S4, S2, List.nil_append, U1, T7, List.append_nil, S5, List.take_zero, S8, List.drop_zero]; exact rfl) | exact rfl) ?_
   refine A2 ?_
   refine A1 rfl (F1 0 rfl (A0 rfl) rfl F0 C5 rfl) ?_
   refine r8 (X6 [1, 1] 42 rfl rfl (Z5 (G4 M4 (G4 M4 (G4 (M8 (F9 (i := 0) rfl) I7) (G4 (M8 (F9 (i := 1) rfl) I7) U3))))) (O0 2 rfl rfl O3)) ?_
   refine D2 1 rfl rfl rfl (A0 rfl) (A0 rfl) (D6 _) rfl C5 rfl ?_
   refine A4 ?_
   refine C2 ?_
   (refine L5 [2] ((x24.1, ⟨x5.2.1.Floor, x5.2.1.Cells, ⟨h0.Txn, x24.2, h0.Lead, h0.Reads, h0.Writes⟩ :: hs0, x5.2.1.Told⟩)) ?_ rfl (by first | (dsimp only; rfl) | rfl) (P0 rfl (J9 (ys := _) 1 rfl rfl F0 C5 (by first | rfl | (dsimp only [TState.cs]; rw [List.map_append]; rfl)))); (have hsz9 : sizeL TCell.size x5.2.1.Cells + sizeL THeld.size x5.2.1.Held + x5.2.1.Told.length ≤ 33044 := hs5; first | exact ⟨by dsimp only; omega, by show sizeL TCell.size _ + sizeL THeld.size _ + _ ≤ 33045; dsimp only; omega, ⟨⟨by dsimp only; omega, by dsimp only; omega⟩, hl5⟩⟩ | exact ⟨by dsimp only; omega, by show sizeL TCell.size _ + sizeL THeld.size _ + _ ≤ 33045; dsimp only; rw [J6]; simp only [I5, N4]; omega, ⟨⟨by dsimp only; omega, by dsimp only; omega⟩, hl5⟩⟩ | exact ⟨by dsimp only; omega, by show sizeL TCell.size _ + sizeL THeld.size _ + _ ≤ 33045; dsimp only; exact Nat.le_trans hsz9 (by decide), ⟨⟨by have h9 := ok12.2; simp at h9; dsimp only; omega, by have h9 := ok12.2; simp at h9; dsimp only; omega⟩, hl5⟩⟩ | exact ⟨by dsimp only; omega, by show sizeL TCell.size _ + sizeL THeld.size _ + _ ≤ 33045; (rw [hh0, N7] at hsz9; dsimp only; rw [N7]; exact Nat.le_trans hsz9 (by decide)), ⟨⟨by dsimp only; omega, by dsimp only; omega⟩, fun k hk => by (rcases List.mem_cons.1 hk with rfl | hk; (exact hl5 h0 (by rw [hh0]; exact List.mem_cons_self)); (exact hl5 k (by rw [hh0]; exact List.mem_cons_of_mem _ hk)))⟩⟩))
  intro h19
  have k19 := of_decide_eq_false h19; try simp only [A8] at k19
  refine C3 (A3 ?_)
  refine P2 (by first | (simp only [TState.ow, TState.ocs, pick, U0, T6, T2, S4, S2, List.nil_append, U1, T7, List.append_nil, S5, List.take_zero, S8, List.drop_zero]; exact rfl) | exact rfl) ?_
  refine A2 ?_
  refine A1 rfl (F1 1 rfl (A0 rfl) rfl F0 C5 rfl) ?_
  refine r8 (X6 [2, 2] 42 rfl rfl (Z5 (G4 M4 (G4 M4 (G4 (M8 (F9 (i := 0) rfl) I7) (G4 (M8 (F9 (i := 1) rfl) I7) U3))))) (O0 0 rfl rfl O3)) ?_
  refine D2 2 rfl rfl rfl (A0 rfl) (A0 rfl) (D6 _) rfl C5 rfl ?_
  refine A4 ?_
  refine C2 ?_
  (refine L5 [0] ((x7.1, x5.2.1)) ?_ rfl (by first | (dsimp only; rfl) | rfl) (P0 rfl (J9 (ys := _) 2 rfl rfl F0 C5 (by first | rfl | (dsimp only [TState.cs]; rw [List.map_append]; rfl)))); (have hsz9 : sizeL TCell.size x5.2.1.Cells + sizeL THeld.size x5.2.1.Held + x5.2.1.Told.length ≤ 33044 := hs5; first | exact ⟨by dsimp only; omega, by show sizeL TCell.size _ + sizeL THeld.size _ + _ ≤ 33045; dsimp only; omega, ⟨⟨by dsimp only; omega, by dsimp only; omega⟩, hl5⟩⟩ | exact ⟨by dsimp only; omega, by show sizeL TCell.size _ + sizeL THeld.size _ + _ ≤ 33045; dsimp only; rw [J6]; simp only [I5, N4]; omega, ⟨⟨by dsimp only; omega, by dsimp only; omega⟩, hl5⟩⟩ | exact ⟨by dsimp only; omega, by show sizeL TCell.size _ + sizeL THeld.size _ + _ ≤ 33045; dsimp only; exact Nat.le_trans hsz9 (by decide), ⟨⟨by have h9 := ok12.2; simp at h9; dsimp only; omega, by have h9 := ok12.2; simp at h9; dsimp only; omega⟩, hl5⟩⟩ | exact ⟨by dsimp only; omega, by show sizeL TCell.size _ + sizeL THeld.size _ + _ ≤ 33045; (rw [hh0, N7] at hsz9; dsimp only; rw [N7]; exact Nat.le_trans hsz9 (by decide)), ⟨⟨by dsimp only; omega, by dsimp only; omega⟩, fun k hk => by (rcases List.mem_cons.1 hk with rfl | hk; (exact hl5 h0 (by rw [hh0]; exact List.mem_cons_self)); (exact hl5 k (by rw [hh0]; exact List.mem_cons_of_mem _ hk)))⟩⟩))
 intro h14
 have k14 := M6 h14; try simp only [A8] at k14
 refine A3 (A2 ?_)
 refine A1 rfl (O1 rfl (A0 rfl) B4) ?_
 refine B3 rfl ?_
 refine A4 ?_
 refine B9 (A0 rfl) ?_ ?_
 ·intro h27
  have k27 := M7 h27; try simp only [A8] at k27
  refine A3 (A2 ?_)
  refine A1 rfl (B1 3 rfl C4 rfl O7 (A0 rfl) rfl) ?_
  refine A1 rfl (B0 1 rfl (A0 rfl) rfl T0 rfl) ?_
  refine A1 rfl (W4 3 rfl I8 (A0 rfl) rfl) ?_
  refine A1 rfl (R8 rfl (A0 rfl) B4) ?_
  refine A4 ?_
  refine B9 (A0 rfl) ?_ ?_
  ·intro h32
   have k32 := of_decide_eq_true h32; try simp only [A8] at k32
   obtain ⟨t0, ht0, htrow⟩ := told_row (l := x5.2.1.Told) (by simpa using h32)
   refine S9 7 (by kernel_rfl) (by kernel_rfl) rfl ?_
   refine B2 rfl rfl (B1 3 rfl C4 rfl O7 (A0 rfl) rfl) ?_
   refine B2 rfl rfl (B0 1 rfl (A0 rfl) rfl T0 rfl) ?_
   refine B2 rfl rfl (B1 3 rfl C4 rfl O7 (A0 rfl) rfl) ?_
   refine B2 rfl rfl (B0 1 rfl (A0 rfl) rfl T0 rfl) ?_
   refine B2 rfl rfl (U7 3 rfl I8 M1 (A0 rfl) rfl B4 (by omega) (by have h9 := (List.getElem?_eq_some_iff.1 ht0).1; first | omega | (simp only [A8]; omega))) ?_
   refine B2 rfl rfl (c0 3 rfl (A0 rfl) rfl Y9 M1 htrow (by decide)) ?_
   refine B2 rfl rfl (K9 rfl I8 M1 Tryz.zeroValue132 rfl rfl rfl rfl (D0 (A0 rfl) (D6 _) G9) rfl rfl) ?_
   refine P7 ?_
   refine L2 (by' := 24) 3 rfl rfl rfl rfl I8 Tryz.type132 rfl rfl rfl rfl rfl rfl (A0 rfl) (A0 rfl) rfl (by first | omega | (simp only [C8, A7, szR] at *; omega)) ?_
   intro v40_1
   refine A1 rfl (B1 3 rfl C4 rfl O7 (A0 rfl) rfl) ?_
   refine T8 3 rfl fun one_v40_1 => ?_
   refine K8 1 rfl rfl rfl (A0 rfl) (A0 rfl) (U2 one_v40_1) rfl O7 rfl ?_
   refine A4 (A3 ?_)
   refine P2 (by first | (simp only [TState.ow, TState.ocs, pick, U0, T6, T2, S4, S2, List.nil_append, U1, T7, List.append_nil, S5, List.take_zero, S8, List.drop_zero]; exact rfl) | exact rfl) ?_
   refine A2 ?_
   refine A1 rfl (F1 1 rfl (A0 rfl) rfl F0 C5 rfl) ?_
   refine r8 (X6 [2, 2] 42 rfl rfl (Z5 (G4 M4 (G4 M4 (G4 (M8 (F9 (i := 0) rfl) I7) (G4 (M8 (F9 (i := 1) rfl) I7) U3))))) (O0 0 rfl rfl O3)) ?_
   refine D2 2 rfl rfl rfl (A0 rfl) (A0 rfl) (D6 _) rfl C5 rfl ?_
   refine A4 ?_
   refine C2 ?_
   (refine L5 [0] ((x7.1, ⟨x5.2.1.Floor, x5.2.1.Cells, x5.2.1.Held, x5.2.1.Told ++ [t0]⟩)) ?_ rfl (by first | (dsimp only; rfl) | rfl) (P0 rfl (J9 (ys := _) 2 rfl rfl F0 C5 (by first | rfl | (dsimp only [TState.cs]; rw [List.map_append]; rfl)))); (have hsz9 : sizeL TCell.size x5.2.1.Cells + sizeL THeld.size x5.2.1.Held + x5.2.1.Told.length ≤ 33044 := hs5; first | exact ⟨by dsimp only; omega, by show sizeL TCell.size _ + sizeL THeld.size _ + _ ≤ 33045; dsimp only; omega, ⟨⟨by dsimp only; omega, by dsimp only; omega⟩, hl5⟩⟩ | exact ⟨by dsimp only; omega, by show sizeL TCell.size _ + sizeL THeld.size _ + _ ≤ 33045; dsimp only; rw [J6]; simp only [I5, N4]; omega, ⟨⟨by dsimp only; omega, by dsimp only; omega⟩, hl5⟩⟩ | exact ⟨by dsimp only; omega, by show sizeL TCell.size _ + sizeL THeld.size _ + _ ≤ 33045; dsimp only; exact Nat.le_trans hsz9 (by decide), ⟨⟨by have h9 := ok12.2; simp at h9; dsimp only; omega, by have h9 := ok12.2; simp at h9; dsimp only; omega⟩, hl5⟩⟩ | exact ⟨by dsimp only; omega, by show sizeL TCell.size _ + sizeL THeld.size _ + _ ≤ 33045; (rw [hh0, N7] at hsz9; dsimp only; rw [N7]; exact Nat.le_trans hsz9 (by decide)), ⟨⟨by dsimp only; omega, by dsimp only; omega⟩, fun k hk => by (rcases List.mem_cons.1 hk with rfl | hk; (exact hl5 h0 (by rw [hh0]; exact List.mem_cons_self)); (exact hl5 k (by rw [hh0]; exact List.mem_cons_of_mem _ hk)))⟩⟩))
  intro h32
  have k32 := of_decide_eq_false h32; try simp only [A8] at k32
  refine C3 (A3 ?_)
  refine P2 (by first | (simp only [TState.ow, TState.ocs, pick, U0, T6, T2, S4, S2, List.nil_append, U1, T7, List.append_nil, S5, List.take_zero, S8, List.drop_zero]; exact rfl) | exact rfl) ?_
  refine A2 ?_
  refine A1 rfl (F1 1 rfl (A0 rfl) rfl F0 C5 rfl) ?_
  refine r8 (X6 [2, 2] 42 rfl rfl (Z5 (G4 M4 (G4 M4 (G4 (M8 (F9 (i := 0) rfl) I7) (G4 (M8 (F9 (i := 1) rfl) I7) U3))))) (O0 0 rfl rfl O3)) ?_
  refine D2 2 rfl rfl rfl (A0 rfl) (A0 rfl) (D6 _) rfl C5 rfl ?_
  refine A4 ?_
  refine C2 ?_
  (refine L5 [0] ((x7.1, x5.2.1)) ?_ rfl (by first | (dsimp only; rfl) | rfl) (P0 rfl (J9 (ys := _) 2 rfl rfl F0 C5 (by first | rfl | (dsimp only [TState.cs]; rw [List.map_append]; rfl)))); (have hsz9 : sizeL TCell.size x5.2.1.Cells + sizeL THeld.size x5.2.1.Held + x5.2.1.Told.length ≤ 33044 := hs5; first | exact ⟨by dsimp only; omega, by show sizeL TCell.size _ + sizeL THeld.size _ + _ ≤ 33045; dsimp only; omega, ⟨⟨by dsimp only; omega, by dsimp only; omega⟩, hl5⟩⟩ | exact ⟨by dsimp only; omega, by show sizeL TCell.size _ + sizeL THeld.size _ + _ ≤ 33045; dsimp only; rw [J6]; simp only [I5, N4]; omega, ⟨⟨by dsimp only; omega, by dsimp only; omega⟩, hl5⟩⟩ | exact ⟨by dsimp only; omega, by show sizeL TCell.size _ + sizeL THeld.size _ + _ ≤ 33045; dsimp only; exact Nat.le_trans hsz9 (by decide), ⟨⟨by have h9 := ok12.2; simp at h9; dsimp only; omega, by have h9 := ok12.2; simp at h9; dsimp only; omega⟩, hl5⟩⟩ | exact ⟨by dsimp only; omega, by show sizeL TCell.size _ + sizeL THeld.size _ + _ ≤ 33045; (rw [hh0, N7] at hsz9; dsimp only; rw [N7]; exact Nat.le_trans hsz9 (by decide)), ⟨⟨by dsimp only; omega, by dsimp only; omega⟩, fun k hk => by (rcases List.mem_cons.1 hk with rfl | hk; (exact hl5 h0 (by rw [hh0]; exact List.mem_cons_self)); (exact hl5 k (by rw [hh0]; exact List.mem_cons_of_mem _ hk)))⟩⟩))
 intro h27
 have k27 := M6 h27; try simp only [A8] at k27
 refine C3 (A3 ?_)
 refine P2 (by first | (simp only [TState.ow, TState.ocs, pick, U0, T6, T2, S4, S2, List.nil_append, U1, T7, List.append_nil, S5, List.take_zero, S8, List.drop_zero]; exact rfl) | exact rfl) ?_
 refine A2 ?_
 refine A1 rfl (F1 1 rfl (A0 rfl) rfl F0 C5 rfl) ?_
 refine r8 (X6 [2, 2] 42 rfl rfl (Z5 (G4 M4 (G4 M4 (G4 (M8 (F9 (i := 0) rfl) I7) (G4 (M8 (F9 (i := 1) rfl) I7) U3))))) (O0 0 rfl rfl O3)) ?_
 refine D2 2 rfl rfl rfl (A0 rfl) (A0 rfl) (D6 _) rfl C5 rfl ?_
 refine A4 ?_
 refine C2 ?_
 (refine L5 [0] ((x7.1, x5.2.1)) ?_ rfl (by first | (dsimp only; rfl) | rfl) (P0 rfl (J9 (ys := _) 2 rfl rfl F0 C5 (by first | rfl | (dsimp only [TState.cs]; rw [List.map_append]; rfl)))); (have hsz9 : sizeL TCell.size x5.2.1.Cells + sizeL THeld.size x5.2.1.Held + x5.2.1.Told.length ≤ 33044 := hs5; first | exact ⟨by dsimp only; omega, by show sizeL TCell.size _ + sizeL THeld.size _ + _ ≤ 33045; dsimp only; omega, ⟨⟨by dsimp only; omega, by dsimp only; omega⟩, hl5⟩⟩ | exact ⟨by dsimp only; omega, by show sizeL TCell.size _ + sizeL THeld.size _ + _ ≤ 33045; dsimp only; rw [J6]; simp only [I5, N4]; omega, ⟨⟨by dsimp only; omega, by dsimp only; omega⟩, hl5⟩⟩ | exact ⟨by dsimp only; omega, by show sizeL TCell.size _ + sizeL THeld.size _ + _ ≤ 33045; dsimp only; exact Nat.le_trans hsz9 (by decide), ⟨⟨by have h9 := ok12.2; simp at h9; dsimp only; omega, by have h9 := ok12.2; simp at h9; dsimp only; omega⟩, hl5⟩⟩ | exact ⟨by dsimp only; omega, by show sizeL TCell.size _ + sizeL THeld.size _ + _ ≤ 33045; (rw [hh0, N7] at hsz9; dsimp only; rw [N7]; exact Nat.le_trans hsz9 (by decide)), ⟨⟨by dsimp only; omega, by dsimp only; omega⟩, fun k hk => by (rcases List.mem_cons.1 hk with rfl | hk; (exact hl5 h0 (by rw [hh0]; exact List.mem_cons_self)); (exact hl5 k (by rw [hh0]; exact List.mem_cons_of_mem _ hk)))⟩⟩))
end Go.Proofs.YtoaoicnnimjbeaaGreat

namespace Go.AV
open Go.ChangeShapes Go.WideShapes Go.ChangeAt Go.RowKit

def heapR (w : World) : RHeap := fun b => w.heap[b]?
theorem heapR_le (w : World) : RLe (heapR w) w := fun _ _ h => h
theorem BK0 {w : World} {a : Addr} {v : Value} (h : w.cell? a = some v) : rcell (heapR w) a = some v := h

def Opens (P : Program) (t : TypeId) (α : Type) (enc : α → List AV) (ok : α → Prop) : Prop :=
  ∀ (H : Type) (en : TypeId × Value → H) (w : World) (base : Nat) (spare : Nat → Bool) (held : Bool) (fuel : Nat) (cs : List Value) (x : DataW H × List MemPlace),
    DataW.trod en P w base spare held fuel t cs = some x → ∃ a : α, ok a ∧ DenC (heapR w) cs (enc a)
theorem Ab9 {R : RHeap} {v : Value} {x : AV} (h : x.den R v) (h1 : v.oneCell' = true) : DenC R [v] [x] :=
  ⟨rfl, fun i u y hu hy => by
    cases i with
    | zero => simp at hu hy; subst hu; subst hy; exact ⟨h, h1⟩
    | succ i => simp at hu⟩
section
variable {P : Program} {t e : TypeId}
theorem BN7 {k : IntKind} (ht : P.underlying t = some (.int k)) : Opens P t Int (fun n => [AV.ik k n]) (fun n => (Lit.int k n).wf = true) := fun H en w base spare held fuel cs x h => by
  obtain ⟨n, rfl, _, hw⟩ := DataW.trod_int ht h
  exact ⟨n, hw, Ab9 rfl rfl⟩
theorem BE5 {α : Type} {p : Nat → α → Prop} : ∀ n, (∀ i, i < n → ∃ a, p i a) → ∃ l : List α, l.length = n ∧ ∀ (i : Nat) (a : α), l[i]? = some a → p i a
  | 0, _ => ⟨[], rfl, fun i a h => by simp at h⟩
  | n + 1, h => by
    obtain ⟨l, h1, h2⟩ := BE5 n fun i hi => h i (by omega)
    obtain ⟨a, ha⟩ := h n (by omega)
    refine ⟨l ++ [a], by simp [h1], fun i b hb => ?_⟩
    by_cases hi : i < l.length
    · rw [List.getElem?_append_left hi] at hb; exact h2 i b hb
    · rw [List.getElem?_append_right (by omega)] at hb
      have hin : i = n := by
        have := (List.getElem?_eq_some_iff.1 hb).1
        simp at this; omega
      subst hin
      rw [h1] at hb; simp at hb; subst hb; exact ha
theorem BB4 {α : Type} {enc : α → List AV} {ok : α → Prop} {sz : Nat} (ht : P.underlying t = some (.slice e)) (hc : P.cellsOf e = sz) (h : Opens P e α enc ok) (hl : ∀ a, (enc a).length = sz) :
    Opens P t (List α) (fun l => [AV.list sz (l.map enc)]) (fun l => ∀ a ∈ l, ok a) := fun H en w base spare held fuel cs x hx => by
  rcases DataW.trod_slice ht hx with ⟨rfl, _⟩ | ⟨a, len, cap, elems, rest, n, _, rfl, _, _, hlc, hcm, hel, hi, _, _⟩
  · exact ⟨[], by simp, Ab9 ⟨none, 0, rfl, Nat.le_refl _, Nat.zero_le _, by simp, fun h => absurd rfl h⟩ rfl⟩
  · obtain ⟨l, h1, h2⟩ := BE5 (p := fun i b => ok b ∧ ∃ cs', w.cells? base (a.add (i * sz)) sz = some cs' ∧ DenC (heapR w) cs' (enc b)) len fun i hil => by
      have := hi i hil
      rw [hc, List.getElem?_eq_getElem (by omega)] at this
      obtain ⟨cs', hcs, htr⟩ := Option.bind_eq_some_iff.1 this
      obtain ⟨b, hb, hd⟩ := h H en w base spare held n cs' _ htr
      exact ⟨b, hb, cs', hcs, hd⟩
    refine ⟨l, fun b hb => ?_, Ab9 ⟨some a, cap, by rw [A8, h1], by rw [A8, h1]; exact hlc, hcm, fun ec he => ?_, fun _ => ⟨a, rfl, fun j y hy => ?_⟩⟩ rfl⟩
    · obtain ⟨i, hib⟩ := List.getElem?_of_mem hb
      exact (h2 i b hib).1
    · obtain ⟨b, _, rfl⟩ := List.mem_map.1 he
      exact hl b
    · have hun : ∀ ec ∈ l.map enc, ec.length = sz := fun ec he => by
        obtain ⟨b, _, rfl⟩ := List.mem_map.1 he
        exact hl b
      have hjl : j < l.length * sz := by
        have := (List.getElem?_eq_some_iff.1 hy).1
        rwa [V6 hun, A8] at this
      have hsz : 0 < sz := by
        rcases Nat.eq_zero_or_pos sz with h0 | h0
        · subst h0; omega
        · exact h0
      have hij : j / sz < l.length := Nat.div_lt_of_lt_mul (by rw [Nat.mul_comm]; exact hjl)
      have hkm : j % sz < sz := Nat.mod_lt _ hsz
      have hjj : j / sz * sz + j % sz = j := by rw [Nat.mul_comm]; exact Nat.div_add_mod j sz
      have hb : l[j / sz]? = some l[j / sz] := List.getElem?_eq_getElem hij
      obtain ⟨_, cs', hcs, hd⟩ := h2 _ _ hb
      obtain ⟨_, hcl, hat⟩ := World.cells?_some hcs
      have hk : (enc l[j / sz])[j % sz]? = some ((enc l[j / sz])[j % sz]'(by rw [hl]; exact hkm)) := List.getElem?_eq_getElem _
      have hyk := Y6 hun (i := j / sz) (e := enc l[j / sz]) (by rw [List.getElem?_map, hb]; rfl) hk
      rw [hjj, hy] at hyk
      injection hyk with hyk
      have hv : cs'[j % sz]? = some (cs'[j % sz]'(by rw [hcl]; exact hkm)) := List.getElem?_eq_getElem _
      have hcell := hat (j % sz) hkm
      rw [hv, AJ4, hjj] at hcell
      refine ⟨_, BK0 hcell, ?_⟩
      have := hd.2 _ _ _ hv hk
      rw [hyk]; exact this
theorem BE6 {H : Type} {en : TypeId × Value → H} {W : World} {base : Nat} {spare : Nat → Bool} {held : Bool} {α : Type} {enc : α → AV} {ok : α → Prop} {v : Value} {d : DataW H} {p : List MemPlace}
    (h : Opens P t α (fun a => [enc a]) ok) (h1 : v.cells = #[v]) (hd : DataW.Trod en P W base spare held t v d p) : ∃ a, ok a ∧ (enc a).den (heapR W) v := by
  obtain ⟨fuel, hf⟩ := hd
  rw [h1] at hf
  obtain ⟨a, h2, h3⟩ := h H en W base spare held fuel _ _ hf
  exact ⟨a, h2, (h3.2 0 v _ rfl rfl).1⟩
theorem BN8 {f : FuncId} {xs : List AV} {b : Bool} {W : World} {vs : List Value} (h : FSpec P f xs (AV.bool b)) (hd : DenV (heapR W) vs xs) :
    Calls P f vs.toArray W fun e w' => e = .returned (.bool b) ∧ Below W.heap.size W w' :=
  (h (heapR W) W vs (heapR_le W) hd).mono fun e w' ⟨v, R', h1, h2, _, _, h5⟩ => ⟨by rw [h1]; exact congrArg Ending.returned h2, h5⟩
end
end Go.AV

namespace Go.AV
section
variable {P : Program} {G : Nat → Prop} {n : Nat} {own : List Own} {o : Oper} {E : EnvF}
end
end Go.AV

namespace Go.AV
open Go.RowKit (Below)
section
variable {P : Program} {G : Nat → Prop} {n : Nat} {own : List Own} {o : Oper} {E : EnvF}
end
end Go.AV

namespace Go.Proofs.YtoaoicnnimjbeaaGreat
open Go Go.AV Go.M
attribute [local irreducible] OpW OpA OpS AWP FSpec ESpec GSpec OpE RetOk RetOkG RvDen Le Ev GuardIs SrcIs SrcE Int.tmod Int.tdiv IntKind.wrap bandI
end Go.Proofs.YtoaoicnnimjbeaaGreat

namespace Go.Proofs.YtoaoicnnimjbeaaGreat
open Go Go.AV Go.M
attribute [local irreducible] OpW OpA OpS AWP FSpec ESpec GSpec OpE RetOk RetOkG RvDen Le Ev GuardIs SrcIs SrcE Int.tmod Int.tdiv IntKind.wrap bandI
end Go.Proofs.YtoaoicnnimjbeaaGreat

namespace Go.Proofs.YtoaoicnnimjbeaaGreat
open Go Go.AV Go.M
attribute [local irreducible] OpW OpA OpS AWP FSpec ESpec GSpec OpE RetOk RetOkG RvDen Le Ev GuardIs SrcIs SrcE Int.tmod Int.tdiv IntKind.wrap bandI
theorem Aq8 (a b : List Int) : FSpec Tryz.prog 13 [ints a, ints b] (AV.bool (decide (a = b))) := by
 refine E2 Tryz.func13 rfl Tryz.ntmps13 rfl ?_
 refine U5 (t := 0) rfl fun hl => ?_
 try simp only [A8] at hl
 refine A3 (A2 ?_)
 refine A1 rfl (B6 rfl E9) ?_
 refine A4 (A3 (A3 (A2 ?_)))
 refine A5 rfl ?_
 refine A1 rfl (F6 rfl I4 (A0 rfl)) ?_
 refine A5 rfl ?_
 refine A1 rfl (F6 rfl I4 (A0 rfl)) ?_
 refine A1 rfl (Z7 rfl (A0 rfl) (A0 rfl)) ?_
 refine A4 ?_
 refine B9 (A0 rfl) ?_ ?_
 ·intro h10
  have k10 := l0 h10; try simp only [A8] at k10
  have hab : a ≠ b := by intro hc; subst hc; exact k10 rfl
  refine A3 (A2 ?_)
  refine A1 rfl (B6 rfl E9) ?_
  refine A4 ?_
  refine C2 ?_
  exact I3 rfl (C1 rfl (by exact congrArg AV.bool (by simp [hab])))
 intro h10
 have k10 := X7 h10; try simp only [A8] at k10
 have heq : a.length = b.length := by omega
 refine C3 (A3 (A3 (A2 ?_)))
 refine A5 rfl ?_
 refine A1 rfl (F6 rfl I4 (A0 rfl)) ?_
 refine A1 rfl (B8 rfl B4) ?_
 refine A4 (C7 ?_)
 refine J0 [(0, _), (1, _), (12, _)] _ (fun (i : Nat) => i ≤ a.length ∧ a.take i = b.take i) (fun (i : Nat) => []) (fun (i : Nat) => [(13, AV.int i)]) (fun (i : Nat) => a.length - i) (0) ?_ (K2 ⟨rfl, rfl, rfl, rfl, trivial⟩) ?_
 ·exact ⟨Nat.zero_le _, rfl⟩
 intro i hinv
 refine A3 (A2 ?_)
 refine A1 rfl (J8 rfl (A0 rfl) (A0 rfl)) ?_
 refine A4 (A3 ?_)
 refine B9 (A0 rfl) ?_ ?_
 ·intro h14
  have k14 := of_decide_eq_true h14; try simp only [A8] at k14
  have hlt : i < a.length := by omega
  obtain ⟨x, hx⟩ := get_some hlt
  obtain ⟨y, hy⟩ := get_some (show i < b.length by omega)
  refine C3 (A3 (C7 (A3 (A2 ?_))))
  refine A5 rfl ?_
  refine B3 rfl ?_
  refine A4 (A3 ?_)
  refine L1 (by kernel_rfl) (by kernel_rfl) rfl ?_
  refine B2 rfl rfl (B8 rfl (A0 rfl)) ?_
  refine B2 rfl rfl (B8 rfl (A0 rfl)) ?_
  refine B2 rfl rfl (I2 rfl I4 B5 (A0 rfl) (A0 rfl) hx (by first | omega | (simp only [C8, A7, szR] at *; omega))) ?_
  refine B2 rfl rfl (L6 rfl (A0 rfl) C6 rfl) ?_
  refine B2 rfl rfl (B8 rfl (A0 rfl)) ?_
  refine B2 rfl rfl (B8 rfl (A0 rfl)) ?_
  refine B2 rfl rfl (I2 rfl I4 B5 (A0 rfl) (A0 rfl) hy (by first | omega | (simp only [C8, A7, szR] at *; omega))) ?_
  refine B2 rfl rfl (L6 rfl (A0 rfl) C6 rfl) ?_
  refine B2 rfl rfl (Z7 rfl (A0 rfl) (A0 rfl)) ?_
  refine P7 ?_
  refine B9 (A0 rfl) ?_ ?_
  ·intro h24
   have k24 := l0 h24; try simp only [A8] at k24
   have hab : a ≠ b := by intro hc; subst hc; rw [hx] at hy; injection hy with hy; subst hy; simp at h24
   refine A3 (A2 ?_)
   refine A1 rfl (B6 rfl E9) ?_
   refine A4 ?_
   refine C2 ?_
   exact I3 rfl (C1 rfl (by exact congrArg AV.bool (by simp [hab])))
  intro h24
  have k24 := X7 h24; try simp only [A8] at k24
  refine C3 (A2 ?_)
  refine A1 rfl (G0 rfl (A0 rfl) B4 (by first | omega | (simp only [C8, A7, szR] at *; omega))) ?_
  refine A5 rfl ?_
  refine A4 ?_
  refine K4 i (i + 1) ?_ ?_ (K2 ⟨rfl, rfl, rfl, rfl, trivial⟩)
  ·exact ⟨by omega, Z9 hinv.2 hx (by rw [hy]; congr 1; simp_all)⟩
  omega
 intro h14
 have k14 := of_decide_eq_false h14; try simp only [A8] at k14
 have hge : a.length ≤ i := by omega
 have hab : a = b := i4 heq hinv.2 hge
 refine G1 ?_
 refine A3 (A2 ?_)
 refine A1 rfl (B6 rfl E9) ?_
 refine A4 ?_
 refine C2 ?_
 exact I3 rfl (C1 rfl (by exact congrArg AV.bool (by simp [hab])))
theorem has_spec (l : List Int) (n : Int) : FSpec Tryz.prog 14 [ints l, AV.int n] (AV.bool (l.any fun x => x == n)) := by
 refine E2 Tryz.func14 rfl Tryz.ntmps14 rfl ?_
 refine U5 (t := 0) rfl fun hl => ?_
 try simp only [A8] at hl
 refine A3 (A2 ?_)
 refine A1 rfl (B6 rfl E9) ?_
 refine A4 (A3 (A3 (A2 ?_)))
 refine A5 rfl ?_
 refine A1 rfl (F6 rfl I4 (A0 rfl)) ?_
 refine A1 rfl (B8 rfl B4) ?_
 refine A4 (C7 ?_)
 refine J0 [(1, _), (7, _), (8, _)] _ (fun (i : Nat) => i ≤ l.length ∧ (l.any fun x => x == n) = (l.drop i).any fun x => x == n) (fun (i : Nat) => []) (fun (i : Nat) => [(9, AV.int i)]) (fun (i : Nat) => l.length - i) (0) ?_ (K2 ⟨rfl, rfl, rfl, rfl, trivial⟩) ?_
 ·exact ⟨Nat.zero_le _, rfl⟩
 intro i hinv
 refine A3 (A2 ?_)
 refine A1 rfl (J8 rfl (A0 rfl) (A0 rfl)) ?_
 refine A4 (A3 ?_)
 refine B9 (A0 rfl) ?_ ?_
 ·intro h10
  have k10 := of_decide_eq_true h10; try simp only [A8] at k10
  have hlt : i < l.length := by omega
  obtain ⟨x, hx⟩ := get_some hlt
  refine C3 (A3 (C7 (A3 (A2 ?_))))
  refine A1 rfl (I2 rfl I4 B5 (A0 rfl) (A0 rfl) hx (by first | omega | (simp only [C8, A7, szR] at *; omega))) ?_
  refine A1 rfl (L6 rfl (A0 rfl) C6 rfl) ?_
  refine B3 rfl ?_
  refine A4 (A3 (A2 ?_))
  refine A5 rfl ?_
  refine A5 rfl ?_
  refine A1 rfl (O1 rfl (A0 rfl) (A0 rfl)) ?_
  refine A4 ?_
  refine B9 (A0 rfl) ?_ ?_
  ·intro h15
   have k15 := M7 h15; try simp only [A8] at k15
   rw [hinv.2, drop_some hx, List.any_cons, show (x == n) = true by simpa using h15]
   refine A3 (A2 ?_)
   refine A1 rfl (B6 rfl E9) ?_
   refine A4 ?_
   refine C2 ?_
   exact I3 rfl (C1 rfl (by rfl))
  intro h15
  have k15 := M6 h15; try simp only [A8] at k15
  refine C3 (A2 ?_)
  refine A1 rfl (G0 rfl (A0 rfl) B4 (by first | omega | (simp only [C8, A7, szR] at *; omega))) ?_
  refine A5 rfl ?_
  refine A4 ?_
  refine K4 i (i + 1) ?_ ?_ (K2 ⟨rfl, rfl, rfl, rfl, trivial⟩)
  ·exact ⟨by omega, by rw [hinv.2, drop_some hx, List.any_cons, show (x == n) = false by simpa using h15, Bool.false_or]⟩
  omega
 intro h10
 have k10 := of_decide_eq_false h10; try simp only [A8] at k10
 have hge : l.length ≤ i := by omega
 rw [hinv.2, List.drop_eq_nil_of_le hge]
 refine G1 ?_
 refine A3 (A2 ?_)
 refine A1 rfl (B6 rfl E9) ?_
 refine A4 ?_
 refine C2 ?_
 exact I3 rfl (C1 rfl (by rfl))
end Go.Proofs.YtoaoicnnimjbeaaGreat

namespace Go.M
open Go.AV
theorem Ag4 {s : TState} {r : TRec} (h : (applyRecR s r).2 = true) : goodState (applyRecR s r).1 = true := by
  by_cases hg : goodState s = true ∧ goodRec r = true
  · rw [BE1 s r hg] at h ⊢
    split at h
    · rename_i h2; rw [if_pos h2]; exact g9.2 (gs_apply (g9.1 hg.1) hg.2 h2)
    · cases h
  · unfold applyRecR at h; rw [if_neg hg] at h; cases h
end Go.M

set_option maxHeartbeats 1000000
namespace Go.M
open Go.AV
def mostI (a b : Int) : Int := if b < a then a else b
def prepT (s : TState) (n : Int) : Int × Bool := if (goodState s && isTrue n) = true then (if mostI s.Floor n + 1 ≤ 100000 then (mostI s.Floor n + 1, true) else (0, false)) else (0, false)
theorem BK1 {n : Int} : isTrue n = true ↔ 0 ≤ n ∧ n ≤ 100000 := by unfold isTrue within; simp only [Bool.and_eq_true, decide_eq_true_eq]
end Go.M
namespace Go.Proofs.YtoaoicnnimjbeaaGreat
open Go Go.AV Go.M
attribute [local irreducible] OpW OpA OpS AWP FSpec ESpec GSpec OpE RetOk RetOkG RvDen Le Ev GuardIs SrcIs SrcE Int.tmod Int.tdiv IntKind.wrap bandI
theorem AX3 (s : TState) (n : Int) (hs : s.size ≤ 400000) : FSpec Tryz.prog 186 [AV.agg s.cs, AV.int n] (AV.tup [AV.int (prepT s n).1, AV.bool (prepT s n).2]) := by
 refine E2 Tryz.func186 rfl Tryz.ntmps186 rfl ?_
 refine A3 (A2 ?_)
 refine N1 rfl rfl rfl rfl (A0 rfl) ?_
 intro b2
 refine A1 rfl (B6 rfl B4) ?_
 refine A1 rfl (B6 rfl E9) ?_
 refine A4 (A3 (A3 (A2 ?_)))
 refine A1 rfl (F1 0 rfl (A0 rfl) rfl F0 C5 rfl) ?_
 refine A1 rfl (D7 rfl Tryz.call81 rfl (w5 s hs) (A6 (A0 rfl) C0)) ?_
 refine A1 rfl (M2 rfl (A0 rfl)) ?_
 refine A5 rfl ?_
 refine F3 rfl (fun hc => B8 rfl (A0 rfl)) ?_
 refine F3 rfl (fun hc => D7 rfl Tryz.call43 rfl (AA9 _) (A6 (A9 rfl hc) C0)) ?_
 refine F3 rfl (fun hc => M2 rfl (A9 rfl hc)) ?_
 refine A1 rfl (Q8 rfl (A0 rfl) (F7 rfl)) ?_
 refine A5 rfl ?_
 refine F3 rfl (fun hc => B1 0 rfl C4 rfl B5 (A0 rfl) rfl) ?_
 refine F3 rfl (fun hc => B0 0 rfl (A9 rfl hc) rfl C6 rfl) ?_
 refine F3 rfl (fun hc => B8 rfl (A0 rfl)) ?_
 refine F3 rfl (fun hc => D7 rfl Tryz.call188 rfl (AJ1 _ _) (A6 (A9 rfl hc) (A6 (A9 rfl hc) C0))) ?_
 refine F3 rfl (fun hc => O1 rfl (A9 rfl hc) B4) ?_
 refine A1 rfl (Q8 rfl (A0 rfl) (F7 rfl)) ?_
 refine A4 ?_
 refine B9 (A0 rfl) ?_ ?_
 ·intro h20
  have he : prepT s n = (0, false) := by (unfold prepT mostI; cases h1 : goodState s <;> cases h2 : M.isTrue n <;> simp_all)
  rw [he]
  refine A3 (A2 ?_)
  refine A1 rfl (B6 rfl B4) ?_
  refine A1 rfl (B6 rfl E9) ?_
  refine A4 ?_
  refine C2 ?_
  exact X8 rfl (by decide) (E7 (C1 rfl (by rfl)) (E7 (C1 rfl (by rfl)) M0))
 intro h20
 have hg : goodState s = true ∧ M.isTrue n = true := by (cases h1 : goodState s <;> cases h2 : M.isTrue n <;> simp_all)
 have hn := BK1.1 hg.2
 have hfl := (g9.1 hg.1).floor
 have hml : 0 ≤ mostI s.Floor n ∧ mostI s.Floor n ≤ 100000 := by (unfold mostI; split <;> omega)
 have hne : mostI s.Floor n ≠ 100000 := fun hc9 => by (rw [hg.1, hg.2, show (if n < s.Floor then s.Floor else n) = (100000 : Int) from hc9] at h20; simp at h20)
 have he : prepT s n = (mostI s.Floor n + 1, true) := by (unfold prepT; rw [if_pos (by rw [hg.1, hg.2]; rfl), if_pos (by omega)])
 rw [he]
 refine C3 (A3 (A2 ?_))
 refine A1 rfl (B1 0 rfl C4 rfl B5 (A0 rfl) rfl) ?_
 refine A1 rfl (B0 0 rfl (A0 rfl) rfl C6 rfl) ?_
 refine A5 rfl ?_
 refine A1 rfl (D7 rfl Tryz.call188 rfl (AJ1 _ _) (A6 (A0 rfl) (A6 (A0 rfl) C0))) ?_
 refine A1 rfl (G0 rfl (A0 rfl) B4 (by show _ ≤ mostI s.Floor n + 1 ∧ mostI s.Floor n + 1 ≤ _; omega)) ?_
 refine B3 rfl ?_
 refine A1 rfl (B6 rfl E9) ?_
 refine A4 ?_
 refine C2 ?_
 exact X8 rfl (by decide) (E7 (C1 rfl (by rfl)) (E7 (C1 rfl (by rfl)) M0))
end Go.Proofs.YtoaoicnnimjbeaaGreat

set_option maxHeartbeats 2000000
namespace Go.M
open Go.AV
theorem AZ8 {os : List TOrder} {t : Int} (h : ¬ dealAt os t < 0) : ∃ x, os[(dealAt os t).toNat]? = some x := by
  unfold dealAt at *
  cases hf : os.findIdx? fun o => o.Txn == t with
  | none => rw [hf] at h; exact absurd (by decide) h
  | some i =>
    have := (List.findIdx?_eq_some_iff_getElem.1 hf).1
    exact get_some (by simpa using this)
theorem Ao0 {s : TState} {m : Nat} (h : s.size ≤ m) : s.Told.length ≤ m ∧ s.Held.length ≤ m := by
  have h0 : s.size = sizeL TCell.size s.Cells + sizeL THeld.size s.Held + s.Told.length := rfl
  have h1 := O4 (f := THeld.size) (l := s.Held)
  omega
theorem p5 {l : List TState} {k : Nat} {s x : TState} (h : l[k]? = some x) : (l.set k s).map TState.cs = (l.take k).map TState.cs ++ s.cs :: (l.drop (k + 1)).map TState.cs := by
  have hk := (List.getElem?_eq_some_iff.1 h).1
  rw [List.set_eq_take_append_cons_drop, if_pos hk, List.map_append, List.map_cons]
theorem Ax6 {l : List TState} {k : Nat} {x : TState} (h : l[k]? = some x) : l.map TState.cs = (l.take k).map TState.cs ++ x.cs :: (l.drop (k + 1)).map TState.cs := by
  have := p5 (s := x) h
  obtain ⟨h1, h2⟩ := List.getElem?_eq_some_iff.1 h
  rw [← h2, List.set_getElem_self h1, h2] at this
  exact this
end Go.M
namespace Go.Proofs.YtoaoicnnimjbeaaGreat
open Go Go.AV Go.M
attribute [local irreducible] OpW OpA OpS AWP FSpec ESpec GSpec OpE RetOk RetOkG RvDen Le Ev GuardIs SrcIs SrcE Int.tmod IntKind.wrap bandI
theorem AV5 (v0 : Value) (d : TDeal) (b : DealB d) : GSpec Tryz.prog 108 [AV.agg [strs d.Cuts, AV.is v0, AV.list 3 (d.Orders.map TOrder.cs)]] [.arr v0 53 4 (d.States.map TState.cs)] (fun _ : Value => True) (fun v => [.arr v0 53 4 (d.States.map TState.cs), .arr v 53 4 (d.States.map TState.cs)]) (fun v => AV.agg [strs d.Cuts, AV.is v, AV.list 3 (d.Orders.map TOrder.cs)]) := by
 have hsl := b.slen
 have hcl := b.clen
 refine H3 Tryz.func108 rfl Tryz.ntmps108 rfl ?_
 refine A3 (A2 ?_)
 refine N1 rfl rfl rfl rfl (A0 rfl) ?_
 intro b1
 refine F5 rfl rfl rfl rfl Tryz.zeroValue43 rfl ?_
 intro b2
 refine A4 (A3 ?_)
 refine Q2 _ 8 (.pure 0 (.pure 1 (.pure 2 (.pure 3 (.pure 4 (.pure 5 (.pure 6 (.e1 7 .nil)))))))) (by kernel_rfl) (by kernel_rfl) rfl i6 ?_
 refine D4 rfl rfl rfl (fun ext => B1 0 rfl E8 rfl H5 (A0 rfl) rfl) ?_
 refine D4 rfl rfl rfl (fun ext => B0 1 rfl (A0 rfl) rfl K7 rfl) ?_
 refine D4 rfl rfl rfl (fun ext => D7 rfl Tryz.call52 rfl (m7 d.Cuts (by omega)) (A6 (A0 rfl) C0)) ?_
 refine D4 rfl rfl rfl (fun ext => B1 2 rfl E8 rfl U4 (A0 rfl) rfl) ?_
 refine D4 rfl rfl rfl (fun ext => B0 1 rfl (A0 rfl) rfl V7 rfl) ?_
 refine D4 rfl rfl rfl (fun ext => D7 rfl Tryz.call53 rfl (AP5 d.Orders b.olen (fun o h => Nat.le_trans (b.orders o h) (by decide))) (A6 (A0 rfl) C0)) ?_
 refine D4 rfl rfl rfl (fun ext => N5 (places := #[(0, 1), (1, 1), (2, 1)]) rfl E8 Tryz.zeroValue43 (fun w => by kernel_rfl) rfl (D0 (A0 rfl) (O9 _ _) (D0 (A0 rfl) (O9 _ _) G9)) rfl) ?_
 refine T9 ?_
 refine S6 rfl rfl rfl (X4 rfl Tryz.zeroValue43 rfl) (fun a _ => (by first | exact E1 rfl | exact E1 (List.append_assoc _ _ _) | exact H6)) ?_
 intro b3 _
 refine W1 ?_
 refine D2 3 rfl rfl rfl (A0 rfl) (A0 rfl) (D6 _) rfl F4 rfl ?_
 refine A4 (A3 (A3 (A2 ?_)))
 refine A1 rfl (B1 1 rfl E8 rfl N8 (A0 rfl) rfl) ?_
 refine A1 rfl (B0 1 rfl (A0 rfl) rfl Q6 rfl) ?_
 refine A1 rfl (W4 2 rfl J2 (A0 rfl) rfl) ?_
 refine A1 rfl (B8 rfl B4) ?_
 refine A4 (C7 ?_)
 refine W5 53 4 ?_
 refine AWP.le (F8 [4, 0] rfl) ?_
 refine P3 [(2, _), (3, _), (14, _), (15, _)] _ (fun (i : Nat) (v : Value) => i ≤ d.States.length) (fun (i : Nat) (v : Value) => [.box b3 43 [strs d.Cuts, AV.is v, AV.list 3 (d.Orders.map TOrder.cs)], .arr v 53 4 ((d.States.take i).map TState.cs)]) (fun (i : Nat) (v : Value) => [(16, AV.int i)]) (fun (i : Nat) (v : Value) => d.States.length - i) (0) ((Value.slice none 0 0)) ?_ (O8 (by rfl) ⟨rfl, rfl, rfl, rfl, rfl, trivial⟩) ?_
 ·exact Nat.zero_le _
 intro i v hinv
 refine A3 (A2 ?_)
 refine A1 rfl (J8 rfl (A0 rfl) (A0 rfl)) ?_
 refine A4 (A3 ?_)
 refine B9 (A0 rfl) ?_ ?_
 ·intro h17
  have k17 := of_decide_eq_true h17; try simp only [A8] at k17
  have hlt : i < d.States.length := by (simpa using h17)
  obtain ⟨x, hx⟩ := get_some hlt
  have hxs := b.states x (F9 hx)
  have hrow : (d.States.map TState.cs)[((i : Nat) : Int).toNat]? = some x.cs := (by rw [Int.toNat_natCast, List.getElem?_map, hx]; rfl)
  refine C3 (A3 (C7 (A3 (A2 ?_))))
  refine A1 rfl (U7 4 rfl J2 C5 (A0 rfl) rfl (A0 rfl) (by first | omega | (simp only [C8, A7, szR] at *; omega)) (by first | omega | (simp only [C8, A7, szR] at *; omega))) ?_
  refine A1 rfl (c0 4 rfl (A0 rfl) rfl F0 C5 hrow (by decide)) ?_
  refine F5 rfl rfl rfl rfl Tryz.zeroValue53 rfl ?_
  intro b5
  refine D2 0 rfl rfl rfl (A0 rfl) (A0 rfl) (D6 _) rfl C5 rfl ?_
  refine A4 ?_
  refine S9 5 (by kernel_rfl) (by kernel_rfl) rfl ?_
  refine B2 rfl rfl (B1 1 rfl E8 rfl N8 (A0 rfl) rfl) ?_
  refine B2 rfl rfl (B0 1 rfl (A0 rfl) rfl Q6 rfl) ?_
  refine B2 rfl rfl (F1 0 rfl (A0 rfl) rfl F0 C5 rfl) ?_
  refine B2 rfl rfl (D7 rfl Tryz.call145 rfl (AC3 x (by omega)) (A6 (A0 rfl) C0)) ?_
  refine B2 rfl rfl (K9 rfl J2 C5 Tryz.zeroValue53 rfl rfl rfl rfl (D0 (A0 rfl) (D6 _) G9) rfl rfl) ?_
  refine P7 ?_
  refine L2 (by' := 80) 2 rfl rfl rfl rfl J2 Tryz.type53 rfl rfl rfl rfl rfl rfl (A0 rfl) (A0 rfl) rfl (by simp only [A8, D9, A7]; omega) ?_
  intro v25_1
  refine A1 rfl (B1 1 rfl E8 rfl N8 (A0 rfl) rfl) ?_
  refine T8 2 rfl fun one_v25_1 => ?_
  refine K8 1 rfl rfl rfl (A0 rfl) (A0 rfl) (U2 one_v25_1) rfl N8 rfl ?_
  refine A4 (A2 ?_)
  refine A1 rfl (G0 rfl (A0 rfl) B4 (by first | omega | (simp only [C8, A7, szR] at *; omega))) ?_
  refine A5 rfl ?_
  refine A4 ?_
  refine O2 i v (i + 1) (v25_1) ?_ ?_ (Le.trans (F8 [0, 0, 0] rfl) (K0 1 (by (rw [List.take_add_one, hx, List.map_append]; rfl)) ⟨rfl, rfl, rfl, rfl, rfl, trivial⟩))
  ·exact (by omega)
  omega
 intro h17
 have k17 := of_decide_eq_false h17; try simp only [A8] at k17
 have hge : d.States.length ≤ i := by (simpa using h17)
 rw [List.take_of_length_le hge]
 refine G1 ?_
 refine A3 (A2 ?_)
 refine A1 rfl (F1 0 rfl (A0 rfl) rfl K5 F4 rfl) ?_
 refine D2 2 rfl rfl rfl (A0 rfl) (A0 rfl) (D6 _) rfl F4 rfl ?_
 refine A4 ?_
 refine C2 ?_
 exact L5 [4, 1] v (trivial) rfl (by rfl) (P0 rfl (J9 (ys := _) 2 rfl rfl K5 F4 rfl))
theorem AV6 (u : Value) (d : TDeal) (o : TOrder) (a : TDealAct) (v : DV d) (ho : orderR o = true ∧ o.size ≤ 1000) : GSpec Tryz.prog 146 [AV.agg [strs d.Cuts, AV.is u, AV.list 3 (d.Orders.map TOrder.cs)], AV.agg o.cs, AV.agg a.cs] [.arr u 53 4 (d.States.map TState.cs)] (fun x : TRec × Int × Bool => x.1.size ≤ 1002 ∧ (x.2.2 = true → 0 ≤ x.2.1 ∧ x.2.1 < d.States.length)) (fun _ => [.arr u 53 4 (d.States.map TState.cs)]) (fun x => AV.tup [AV.agg x.1.cs, AV.int x.2.1, AV.bool x.2.2]) := by
 obtain ⟨p0, hp0⟩ := Ag3 (cuts := d.Cuts) ho.1
 have hpm : ∀ p ∈ partsL d.Cuts (keysO o), 0 ≤ p ∧ p < d.States.length := fun p hp => by have := BN6 hp; have := v.slen; omega
 have hos := ho.2
 obtain ⟨hrl, hwz, hwl, hrz⟩ := AH3 (show o.size ≤ 300000 by omega)
 have hpl : (partsL d.Cuts (keysO o)).length ≤ 600000 := Nat.le_trans (AP1 _ _) (An0 (by omega))
 have hp0m := hpm p0 (F9 hp0)
 obtain ⟨s0, hs0⟩ := get_some (show p0.toNat < d.States.length by omega)
 have hs0z := v.st s0 (F9 hs0)
 have hs0t := Ao0 hs0z
 have hz : o.size = sizeL (fun x : Str => x.length) o.Reads + sizeL TWrite.size o.Writes := rfl
 have hrow0 : (d.States.map TState.cs)[p0.toNat]? = some s0.cs := by rw [List.getElem?_map, hs0]; rfl
 refine H3 Tryz.func146 rfl Tryz.ntmps146 rfl ?_
 refine A3 (A2 ?_)
 refine N1 rfl rfl rfl rfl (A0 rfl) ?_
 intro b3
 refine N1 rfl rfl rfl rfl (A0 rfl) ?_
 intro b4
 refine N1 rfl rfl rfl rfl (A0 rfl) ?_
 intro b5
 refine F5 rfl rfl rfl rfl Tryz.zeroValue104 rfl ?_
 intro b6
 refine A1 rfl (B6 rfl B4) ?_
 refine A1 rfl (B6 rfl E9) ?_
 refine A4 (A3 (A2 ?_))
 refine A1 rfl (B1 0 rfl E8 rfl H5 (A0 rfl) rfl) ?_
 refine A1 rfl (B0 3 rfl (A0 rfl) rfl K7 rfl) ?_
 refine A1 rfl (F1 2 rfl (A0 rfl) rfl Q4 H4 rfl) ?_
 refine A1 rfl (D7 rfl Tryz.call38 rfl (AP3 d.Cuts o (by omega)) (A6 (A0 rfl) (A6 (A0 rfl) C0))) ?_
 refine B3 rfl ?_
 refine A4 (A3 (A2 ?_))
 refine A5 rfl ?_
 refine A1 rfl (I2 rfl I4 B5 (A0 rfl) B4 hp0 (by first | omega | (simp only [C8, A7, szR] at *; omega))) ?_
 refine A1 rfl (L6 rfl (A0 rfl) C6 rfl) ?_
 refine B3 rfl ?_
 refine A4 (A3 ?_)
 refine AWP.le (F8 [3, 2, 2] rfl) ?_
 refine Q2 _ 13 (.pure 0 (.pure 1 (.pure 2 (.pure 3 (.pure 4 (.pure 5 (.pure 6 (.pure 7 (.pure 8 (.pure 9 (.pure 10 (.e1 11 (.e1 12 .nil))))))))))))) (by kernel_rfl) (by kernel_rfl) rfl (V2 3) ?_
 refine D4 rfl rfl rfl (fun ext => B1 1 rfl E8 rfl N8 (A0 rfl) rfl) ?_
 refine D4 rfl rfl rfl (fun ext => B0 0 rfl (A0 rfl) rfl Q6 rfl) ?_
 refine D4 rfl rfl rfl (fun ext => B8 rfl (A0 rfl)) ?_
 refine D4 rfl rfl rfl (fun ext => U7 2 rfl J2 C5 (A0 rfl) rfl (A0 rfl) (by omega) (by simp only [A8]; omega)) ?_
 refine D4 rfl rfl rfl (fun ext => c0 2 rfl (A0 rfl) rfl F0 C5 hrow0 (by decide)) ?_
 refine D4 rfl rfl rfl (fun ext => B1 0 rfl H1 rfl B5 (A0 rfl) rfl) ?_
 refine D4 rfl rfl rfl (fun ext => B0 1 rfl (A0 rfl) rfl C6 rfl) ?_
 refine D4 rfl rfl rfl (fun ext => D7 rfl Tryz.call184 rfl (AF6 s0 o.Txn (by omega)) (A6 (A0 rfl) (A6 (A0 rfl) C0))) ?_
 refine D4 rfl rfl rfl (fun ext => B8 rfl (A0 rfl)) ?_
 refine D4 rfl rfl rfl (fun ext => G6 rfl (A0 rfl) rfl) ?_
 refine D4 rfl rfl rfl (fun ext => G6 rfl (A0 rfl) rfl) ?_
 refine T9 ?_
 refine S6 rfl rfl rfl (X4 rfl Tryz.zeroValue132 rfl) (fun a _ => (by first | exact E1 rfl | exact E1 (List.append_assoc _ _ _) | exact H6)) ?_
 intro b11 _
 refine T9 ?_
 refine j5 rfl rfl rfl (W7 5 rfl rfl (A0 rfl) (A0 rfl) (D6 _) rfl M1 rfl) (fun a _ => (by first | exact E1 rfl | exact E1 (List.append_assoc _ _ _) | exact H6)) ?_
 intro _ _
 refine W1 ?_
 refine B3 rfl ?_
 refine A4 (A3 (A3 ?_))
 refine P2 (by first | (simp only [splice, pick, U0, T6, T2, S4, S2, List.nil_append, U1, T7, List.append_nil, S5, List.take_zero, S8, List.drop_zero]; exact rfl) | exact rfl) ?_
 refine A2 ?_
 refine A1 rfl (B1 0 rfl N3 rfl B5 (A0 rfl) rfl) ?_
 refine A1 rfl (B0 4 rfl (A0 rfl) rfl C6 rfl) ?_
 refine A4 (C7 (A3 (A2 ?_)))
 refine A1 rfl (O1 rfl (A0 rfl) B4) ?_
 refine B3 rfl ?_
 refine A4 ?_
 refine B9 (A0 rfl) ?_ ?_
 ·intro h42
  have k42 := M7 h42; try simp only [A8] at k42
  refine A3 (A3 (A2 ?_))
  refine A5 rfl ?_
  refine A5 rfl ?_
  refine F3 rfl (fun hc => B1 3 rfl N3 rfl B5 (A0 rfl) rfl) ?_
  refine F3 rfl (fun hc => B0 4 rfl (A9 rfl hc) rfl C6 rfl) ?_
  refine F3 rfl (fun hc => Z7 rfl (A9 rfl hc) B4) ?_
  refine A1 rfl (Q8 rfl (A0 rfl) (F7 rfl)) ?_
  refine A5 rfl ?_
  refine F3 rfl (fun hc => B8 rfl (A0 rfl)) ?_
  refine F3 rfl (fun hc => B1 2 rfl N3 rfl B5 (A0 rfl) rfl) ?_
  refine F3 rfl (fun hc => B0 4 rfl (A9 rfl hc) rfl C6 rfl) ?_
  refine F3 rfl (fun hc => D7 rfl Tryz.call185 rfl (An9 _ _) (A6 (A9 rfl hc) (A6 (A9 rfl hc) C0))) ?_
  refine F3 rfl (fun hc => M2 rfl (A9 rfl hc)) ?_
  refine A1 rfl (Q8 rfl (A0 rfl) (F7 rfl)) ?_
  refine A4 ?_
  refine B9 (A0 rfl) ?_ ?_
  ·intro h56
   refine A3 (A2 ?_)
   refine A1 rfl (N5 (places := #[(0, 1), (1, 1), (2, 1), (3, 1), (4, 1), (5, 1), (6, 1)]) rfl B7 Tryz.zeroValue104 (fun w => by kernel_rfl) rfl G9 rfl) ?_
   refine D2 3 rfl rfl rfl (A0 rfl) (A0 rfl) (D6 _) rfl H8 rfl ?_
   refine A1 rfl (B6 rfl B4) ?_
   refine A1 rfl (B6 rfl E9) ?_
   refine A4 ?_
   refine C2 ?_
   refine Q7 3 4 1 rfl rfl (O0 2 rfl rfl O3) ?_
   refine Q7 3 5 3 rfl rfl (O0 2 rfl rfl O3) ?_
   (refine L5 [2] ((zRec, 0, false)) ?_ rfl (by first | (dsimp only; rfl) | rfl) (V5 rfl (by decide) (E7 (J9 (ys := _) 3 rfl rfl O6 H8 rfl) (E7 (C1 rfl (by rfl)) (E7 (C1 rfl (by rfl)) M0)))); first | exact ⟨(show (0 : Nat) ≤ 1002 by decide), fun h => (by cases h)⟩ | exact ⟨(show (0 : Nat) ≤ 1002 by decide), fun _ => hp0m⟩ | exact ⟨(show (0 : Nat) ≤ 1002 by decide), fun h => (by (have h9 : ((a.Kind == 4 && (toldFO s0.Told o.Txn).2 && a.Time == 0 && a.Part != p0) && ((partsL d.Cuts (keysO o)).any fun y => a.Part == y)) = true := h; rw [Bool.and_eq_true] at h9; exact hpm _ (AA3 h9.2)))⟩ | exact ⟨(show sizeL (fun x : Str => x.length) (o.Reads.filter (inS d.Cuts a.Part)) + sizeL TWrite.size (o.Writes.filter fun w => inS d.Cuts a.Part w.Key) ≤ 1002 by omega), fun _ => hapm⟩)
  intro h56
  have hap : a.Part ∈ partsL d.Cuts (keysO o) := (by rw [Bool.or_eq_false_iff] at h56; exact AA3 (by simpa using h56.2))
  have hapm := hpm _ hap
  obtain ⟨s1, hs1⟩ := get_some (show a.Part.toNat < d.States.length by omega)
  have hs1z := v.st s1 (F9 hs1)
  have hrow1 : (d.States.map TState.cs)[a.Part.toNat]? = some s1.cs := (by rw [List.getElem?_map, hs1]; rfl)
  have hfr := AF8 (f := fun x : Str => x.length) (p := inS d.Cuts a.Part) (l := o.Reads)
  have hfw := AF8 (f := TWrite.size) (p := fun w => inS d.Cuts a.Part w.Key) (l := o.Writes)
  refine C3 (A3 (A2 ?_))
  refine A1 rfl (B1 1 rfl E8 rfl N8 (A0 rfl) rfl) ?_
  refine A1 rfl (B0 0 rfl (A0 rfl) rfl Q6 rfl) ?_
  refine A1 rfl (B1 2 rfl N3 rfl B5 (A0 rfl) rfl) ?_
  refine A1 rfl (B0 4 rfl (A0 rfl) rfl C6 rfl) ?_
  refine A1 rfl (U7 2 rfl J2 C5 (A0 rfl) rfl (A0 rfl) (by omega) (by simp only [A8]; omega)) ?_
  refine A1 rfl (c0 2 rfl (A0 rfl) rfl F0 C5 hrow1 (by decide)) ?_
  refine A1 rfl (D7 rfl Tryz.call186 rfl (AX3 s1 0 (by omega)) (A6 (A0 rfl) (A6 B4 C0))) ?_
  refine A5 rfl ?_
  refine A1 rfl (G6 rfl (A0 rfl) rfl) ?_
  refine A1 rfl (G6 rfl (A0 rfl) rfl) ?_
  refine B3 rfl ?_
  refine B3 rfl ?_
  refine A4 (A3 (A2 ?_))
  refine A1 rfl (B1 0 rfl E8 rfl H5 (A0 rfl) rfl) ?_
  refine A1 rfl (B0 0 rfl (A0 rfl) rfl K7 rfl) ?_
  refine A1 rfl (B1 1 rfl H1 rfl H5 (A0 rfl) rfl) ?_
  refine A1 rfl (B0 1 rfl (A0 rfl) rfl K7 rfl) ?_
  refine A1 rfl (B1 2 rfl H1 rfl L0 (A0 rfl) rfl) ?_
  refine A1 rfl (B0 1 rfl (A0 rfl) rfl M3 rfl) ?_
  refine A1 rfl (B1 2 rfl N3 rfl B5 (A0 rfl) rfl) ?_
  refine A1 rfl (B0 4 rfl (A0 rfl) rfl C6 rfl) ?_
  refine A1 rfl (D7 rfl Tryz.call187 rfl (BJ8 d.Cuts o.Reads o.Writes a.Part (by omega) (by omega)) (A6 (A0 rfl) (A6 (A0 rfl) (A6 (A0 rfl) (A6 (A0 rfl) C0))))) ?_
  refine A5 rfl ?_
  refine A1 rfl (G6 rfl (A0 rfl) rfl) ?_
  refine A1 rfl (G6 rfl (A0 rfl) rfl) ?_
  refine B3 rfl ?_
  refine B3 rfl ?_
  refine A4 (A3 ?_)
  refine AWP.le (F8 [1, 3] rfl) ?_
  refine Q2 _ 12 (.pure 0 (.pure 1 (.pure 2 (.pure 3 (.pure 4 (.pure 5 (.pure 6 (.pure 7 (.pure 8 (.pure 9 (.e1 10 (.pure 11 .nil)))))))))))) (by kernel_rfl) (by kernel_rfl) rfl (V2 2) ?_
  refine D4 rfl rfl rfl (fun ext => B1 0 rfl H1 rfl B5 (A0 rfl) rfl) ?_
  refine D4 rfl rfl rfl (fun ext => B0 0 rfl (A0 rfl) rfl C6 rfl) ?_
  refine D4 rfl rfl rfl (fun ext => B8 rfl (A0 rfl)) ?_
  refine D4 rfl rfl rfl (fun ext => B8 rfl (A0 rfl)) ?_
  refine D4 rfl rfl rfl (fun ext => B8 rfl (A0 rfl)) ?_
  refine D4 rfl rfl rfl (fun ext => B8 rfl (A0 rfl)) ?_
  refine D4 rfl rfl rfl (fun ext => N5 (places := #[(0, 1), (1, 1), (2, 1), (3, 1), (4, 1), (5, 1), (6, 1)]) rfl B7 Tryz.zeroValue104 (fun w => by kernel_rfl) rfl (D0 B4 (L8 _ _) (D0 (A0 rfl) (L8 _ _) (D0 (A0 rfl) (L8 _ _) (D0 (A0 rfl) (L8 _ _) (D0 (A0 rfl) (O9 _ _) (D0 (A0 rfl) (O9 _ _) G9)))))) rfl) ?_
  refine D4 rfl rfl rfl (fun ext => B1 2 rfl N3 rfl B5 (A0 rfl) rfl) ?_
  refine D4 rfl rfl rfl (fun ext => B0 1 rfl (A0 rfl) rfl C6 rfl) ?_
  refine D4 rfl rfl rfl (fun ext => B8 rfl (A0 rfl)) ?_
  refine T9 ?_
  refine j5 rfl rfl rfl (W7 4 rfl rfl (A0 rfl) (A0 rfl) (D6 _) rfl H8 rfl) (fun a _ => (by first | exact E1 rfl | exact E1 (List.append_assoc _ _ _) | exact H6)) ?_
  intro _ _
  refine D4 rfl rfl rfl (fun ext => B6 rfl (A0 rfl)) ?_
  refine W1 ?_
  refine B3 rfl ?_
  refine A4 ?_
  refine C2 ?_
  (refine L5 [3] ((⟨1, o.Txn, (prepT s1 0).1, p0, o.Reads.filter (inS d.Cuts a.Part), o.Writes.filter (fun w => inS d.Cuts a.Part w.Key), false⟩, a.Part, (prepT s1 0).2)) ?_ rfl (by first | (dsimp only; rfl) | rfl) (V5 rfl (by decide) (E7 (J9 (ys := _) 4 rfl rfl O6 H8 rfl) (E7 (C1 rfl (by rfl)) (E7 (C1 rfl (by rfl)) M0)))); first | exact ⟨(show (0 : Nat) ≤ 1002 by decide), fun h => (by cases h)⟩ | exact ⟨(show (0 : Nat) ≤ 1002 by decide), fun _ => hp0m⟩ | exact ⟨(show (0 : Nat) ≤ 1002 by decide), fun h => (by (have h9 : ((a.Kind == 4 && (toldFO s0.Told o.Txn).2 && a.Time == 0 && a.Part != p0) && ((partsL d.Cuts (keysO o)).any fun y => a.Part == y)) = true := h; rw [Bool.and_eq_true] at h9; exact hpm _ (AA3 h9.2)))⟩ | exact ⟨(show sizeL (fun x : Str => x.length) (o.Reads.filter (inS d.Cuts a.Part)) + sizeL TWrite.size (o.Writes.filter fun w => inS d.Cuts a.Part w.Key) ≤ 1002 by omega), fun _ => hapm⟩)
 intro h42
 have k42 := M6 h42; try simp only [A8] at k42
 refine A3 (A2 ?_)
 refine A1 rfl (O1 rfl (A0 rfl) B4) ?_
 refine B3 rfl ?_
 refine A4 ?_
 refine B9 (A0 rfl) ?_ ?_
 ·intro h90
  have k90 := M7 h90; try simp only [A8] at k90
  refine A3 (A2 ?_)
  refine A1 rfl (B1 3 rfl N3 rfl B5 (A0 rfl) rfl) ?_
  refine A1 rfl (B0 4 rfl (A0 rfl) rfl C6 rfl) ?_
  refine B3 rfl ?_
  refine A4 (A3 (A3 (A2 ?_)))
  refine A5 rfl ?_
  refine A1 rfl (F6 rfl I4 (A0 rfl)) ?_
  refine A1 rfl (B8 rfl B4) ?_
  refine A4 (C7 ?_)
  refine AWP.le (F8 [0, 0, 0, 1, 0, 0] rfl) ?_
  refine P3 [(3, _), (4, _), (5, _), (6, _), (9, _), (10, _), (11, _), (12, _), (94, _), (95, _)] _ (fun (i : Nat) (t : Int) => i ≤ (partsL d.Cuts (keysO o)).length) (fun (i : Nat) (t : Int) => [.box b3 43 [strs d.Cuts, AV.is u, AV.list 3 (d.Orders.map TOrder.cs)], .box b4 32 o.cs, .arr u 53 4 (d.States.map TState.cs)]) (fun (i : Nat) (t : Int) => [(17, AV.int t), (96, AV.int i)]) (fun (i : Nat) (t : Int) => (partsL d.Cuts (keysO o)).length - i) (0) (a.Time) ?_ (O8 (by rfl) ⟨rfl, rfl, rfl, rfl, rfl, rfl, rfl, rfl, rfl, rfl, rfl, rfl, trivial⟩) ?_
  ·exact Nat.zero_le _
  intro i t hinv
  refine A3 (A2 ?_)
  refine A1 rfl (J8 rfl (A0 rfl) (A0 rfl)) ?_
  refine A4 (A3 ?_)
  refine B9 (A0 rfl) ?_ ?_
  ·intro h97
   have k97 := of_decide_eq_true h97; try simp only [A8] at k97
   have hlt : i < (partsL d.Cuts (keysO o)).length := by (simpa using h97)
   obtain ⟨pi, hpi⟩ := get_some hlt
   have hpim := hpm pi (F9 hpi)
   obtain ⟨si, hsi⟩ := get_some (show pi.toNat < d.States.length by omega)
   have hsiz := v.st si (F9 hsi)
   have hsit := Ao0 hsiz
   have hrowi : (d.States.map TState.cs)[pi.toNat]? = some si.cs := (by rw [List.getElem?_map, hsi]; rfl)
   refine C3 (A3 (C7 (A3 (A2 ?_))))
   refine A1 rfl (I2 rfl I4 B5 (A0 rfl) (A0 rfl) hpi (by first | omega | (simp only [C8, A7, szR] at *; omega))) ?_
   refine A1 rfl (L6 rfl (A0 rfl) C6 rfl) ?_
   refine B3 rfl ?_
   refine A4 (A3 ?_)
   refine P2 (by first | (simp only [splice, pick, U0, T6, T2, S4, S2, List.nil_append, U1, T7, List.append_nil, S5, List.take_zero, S8, List.drop_zero]; exact rfl) | exact rfl) ?_
   refine AWP.le (F8 [0, 0, 0] rfl) ?_
   refine Q2 _ 13 (.pure 0 (.pure 1 (.pure 2 (.pure 3 (.pure 4 (.pure 5 (.pure 6 (.pure 7 (.pure 8 (.pure 9 (.pure 10 (.e1 11 (.e1 12 .nil))))))))))))) (by kernel_rfl) (by kernel_rfl) rfl (V2 3) ?_
   refine D4 rfl rfl rfl (fun ext => B1 1 rfl E8 rfl N8 (A0 rfl) rfl) ?_
   refine D4 rfl rfl rfl (fun ext => B0 0 rfl (A0 rfl) rfl Q6 rfl) ?_
   refine D4 rfl rfl rfl (fun ext => B8 rfl (A0 rfl)) ?_
   refine D4 rfl rfl rfl (fun ext => U7 2 rfl J2 C5 (A0 rfl) rfl (A0 rfl) (by omega) (by simp only [A8]; omega)) ?_
   refine D4 rfl rfl rfl (fun ext => c0 2 rfl (A0 rfl) rfl F0 C5 hrowi (by decide)) ?_
   refine D4 rfl rfl rfl (fun ext => B1 0 rfl H1 rfl B5 (A0 rfl) rfl) ?_
   refine D4 rfl rfl rfl (fun ext => B0 1 rfl (A0 rfl) rfl C6 rfl) ?_
   refine D4 rfl rfl rfl (fun ext => D7 rfl Tryz.call120 rfl (AF5 si o.Txn (by omega)) (A6 (A0 rfl) (A6 (A0 rfl) C0))) ?_
   refine D4 rfl rfl rfl (fun ext => B8 rfl (A0 rfl)) ?_
   refine D4 rfl rfl rfl (fun ext => G6 rfl (A0 rfl) rfl) ?_
   refine D4 rfl rfl rfl (fun ext => G6 rfl (A0 rfl) rfl) ?_
   refine T9 ?_
   refine S6 rfl rfl rfl (X4 rfl Tryz.zeroValue130 rfl) (fun a _ => (by first | exact E1 rfl | exact E1 (List.append_assoc _ _ _) | exact H6)) ?_
   intro b20 _
   refine T9 ?_
   refine j5 rfl rfl rfl (W7 6 rfl rfl (A0 rfl) (A0 rfl) (D6 _) rfl D5 rfl) (fun a _ => (by first | exact E1 rfl | exact E1 (List.append_assoc _ _ _) | exact H6)) ?_
   intro _ _
   refine W1 ?_
   refine B3 rfl ?_
   refine A4 (A3 (A3 (A2 ?_)))
   refine A5 rfl ?_
   refine A1 rfl (M2 rfl (A0 rfl)) ?_
   refine A4 ?_
   refine B9 (A0 rfl) ?_ ?_
   ·intro h112
    refine A3 (A2 ?_)
    refine A1 rfl (N5 (places := #[(0, 1), (1, 1), (2, 1), (3, 1), (4, 1), (5, 1), (6, 1)]) rfl B7 Tryz.zeroValue104 (fun w => by kernel_rfl) rfl G9 rfl) ?_
    refine D2 4 rfl rfl rfl (A0 rfl) (A0 rfl) (D6 _) rfl H8 rfl ?_
    refine A1 rfl (B6 rfl B4) ?_
    refine A1 rfl (B6 rfl E9) ?_
    refine A4 ?_
    refine C2 ?_
    refine Q7 4 4 1 rfl rfl (O0 2 rfl rfl O3) ?_
    refine Q7 4 5 3 rfl rfl (O0 2 rfl rfl O3) ?_
    (refine L5 [2] ((zRec, 0, false)) ?_ rfl (by first | (dsimp only; rfl) | rfl) (V5 rfl (by decide) (E7 (J9 (ys := _) 4 rfl rfl O6 H8 rfl) (E7 (C1 rfl (by rfl)) (E7 (C1 rfl (by rfl)) M0)))); first | exact ⟨(show (0 : Nat) ≤ 1002 by decide), fun h => (by cases h)⟩ | exact ⟨(show (0 : Nat) ≤ 1002 by decide), fun _ => hp0m⟩ | exact ⟨(show (0 : Nat) ≤ 1002 by decide), fun h => (by (have h9 : ((a.Kind == 4 && (toldFO s0.Told o.Txn).2 && a.Time == 0 && a.Part != p0) && ((partsL d.Cuts (keysO o)).any fun y => a.Part == y)) = true := h; rw [Bool.and_eq_true] at h9; exact hpm _ (AA3 h9.2)))⟩ | exact ⟨(show sizeL (fun x : Str => x.length) (o.Reads.filter (inS d.Cuts a.Part)) + sizeL TWrite.size (o.Writes.filter fun w => inS d.Cuts a.Part w.Key) ≤ 1002 by omega), fun _ => hapm⟩)
   intro h112
   refine C3 (A2 ?_)
   refine A5 rfl ?_
   refine A1 rfl (B1 1 rfl G2 rfl B5 (A0 rfl) rfl) ?_
   refine A1 rfl (B0 6 rfl (A0 rfl) rfl C6 rfl) ?_
   refine A1 rfl (D7 rfl Tryz.call188 rfl (AJ1 _ _) (A6 (A0 rfl) (A6 (A0 rfl) C0))) ?_
   refine B3 rfl ?_
   refine A4 (A2 ?_)
   refine A1 rfl (G0 rfl (A0 rfl) B4 (by first | omega | (simp only [C8, A7, szR] at *; omega))) ?_
   refine A5 rfl ?_
   refine A4 ?_
   refine O2 i t (i + 1) ((if (heldFO si.Held o.Txn).1.Time < t then t else (heldFO si.Held o.Txn).1.Time)) ?_ ?_ (Le.trans (F8 [6, 0, 0, 0] rfl) (K0 1 (by rfl) ⟨rfl, rfl, rfl, rfl, rfl, rfl, rfl, rfl, rfl, rfl, rfl, rfl, trivial⟩))
   ·exact (by omega)
   omega
  intro h97
  have k97 := of_decide_eq_false h97; try simp only [A8] at k97
  refine G1 ?_
  refine A3 ?_
  refine AWP.le (F8 [1, 2] rfl) ?_
  refine Q2 _ 15 (.pure 0 (.pure 1 (.pure 2 (.pure 3 (.pure 4 (.pure 5 (.pure 6 (.pure 7 (.pure 8 (.pure 9 (.pure 10 (.pure 11 (.pure 12 (.e1 13 (.pure 14 .nil))))))))))))))) (by kernel_rfl) (by kernel_rfl) rfl (V2 2) ?_
  refine D4 rfl rfl rfl (fun ext => B1 0 rfl H1 rfl B5 (A0 rfl) rfl) ?_
  refine D4 rfl rfl rfl (fun ext => B0 0 rfl (A0 rfl) rfl C6 rfl) ?_
  refine D4 rfl rfl rfl (fun ext => B8 rfl (A0 rfl)) ?_
  refine D4 rfl rfl rfl (fun ext => N5 (places := #[(0, 1), (1, 1), (2, 1), (3, 1), (4, 1), (5, 1), (6, 1)]) rfl B7 Tryz.zeroValue104 (fun w => by kernel_rfl) rfl (D0 B4 (L8 _ _) (D0 (A0 rfl) (L8 _ _) (D0 (A0 rfl) (L8 _ _) (D0 E9 (f6 _) G9)))) rfl) ?_
  refine D4 rfl rfl rfl (fun ext => B8 rfl (A0 rfl)) ?_
  refine D4 rfl rfl rfl (fun ext => B1 2 rfl N3 rfl B5 (A0 rfl) rfl) ?_
  refine D4 rfl rfl rfl (fun ext => B0 1 rfl (A0 rfl) rfl C6 rfl) ?_
  refine D4 rfl rfl rfl (fun ext => O1 rfl (A0 rfl) B4) ?_
  refine D4 rfl rfl rfl (fun ext => B8 rfl (A0 rfl)) ?_
  refine T5 rfl rfl (I9 rfl rfl rfl) (fun hc ext => B1 3 rfl N3 rfl B5 (A0 rfl) rfl) ?_
  refine T5 rfl rfl (I9 rfl rfl rfl) (fun hc ext => B0 1 rfl (A9 rfl hc) rfl C6 rfl) ?_
  refine T5 rfl rfl (I9 rfl rfl rfl) (fun hc ext => D7 rfl Tryz.call43 rfl (AA9 _) (A6 (A9 rfl hc) C0)) ?_
  refine D4 rfl rfl rfl (fun ext => J5 rfl (A0 rfl) (F7 rfl)) ?_
  refine T9 ?_
  refine j5 rfl rfl rfl (W7 4 rfl rfl (A0 rfl) (A0 rfl) (D6 _) rfl H8 rfl) (fun a _ => (by first | exact E1 rfl | exact E1 (List.append_assoc _ _ _) | exact H6)) ?_
  intro _ _
  refine D4 rfl rfl rfl (fun ext => B6 rfl (A0 rfl)) ?_
  refine W1 ?_
  refine B3 rfl ?_
  refine A4 ?_
  refine C2 ?_
  refine Q7 4 4 1 rfl rfl (O0 3 rfl rfl O3) ?_
  refine Q7 4 5 3 rfl rfl (O0 3 rfl rfl O3) ?_
  (refine L5 [3] ((⟨2, o.Txn, t, 0, [], [], true⟩, p0, _)) ?_ rfl (by first | (dsimp only; rfl) | rfl) (V5 rfl (by decide) (E7 (J9 (ys := _) 4 rfl rfl O6 H8 rfl) (E7 (C1 rfl (by rfl)) (E7 (C1 rfl (by rfl)) M0)))); first | exact ⟨(show (0 : Nat) ≤ 1002 by decide), fun h => (by cases h)⟩ | exact ⟨(show (0 : Nat) ≤ 1002 by decide), fun _ => hp0m⟩ | exact ⟨(show (0 : Nat) ≤ 1002 by decide), fun h => (by (have h9 : ((a.Kind == 4 && (toldFO s0.Told o.Txn).2 && a.Time == 0 && a.Part != p0) && ((partsL d.Cuts (keysO o)).any fun y => a.Part == y)) = true := h; rw [Bool.and_eq_true] at h9; exact hpm _ (AA3 h9.2)))⟩ | exact ⟨(show sizeL (fun x : Str => x.length) (o.Reads.filter (inS d.Cuts a.Part)) + sizeL TWrite.size (o.Writes.filter fun w => inS d.Cuts a.Part w.Key) ≤ 1002 by omega), fun _ => hapm⟩)
 intro h90
 have k90 := M6 h90; try simp only [A8] at k90
 refine A3 (A2 ?_)
 refine A1 rfl (O1 rfl (A0 rfl) B4) ?_
 refine B3 rfl ?_
 refine A4 ?_
 refine B9 (A0 rfl) ?_ ?_
 ·intro h132
  have k132 := M7 h132; try simp only [A8] at k132
  refine A3 ?_
  refine AWP.le (F8 [1, 3] rfl) ?_
  refine Q2 _ 14 (.pure 0 (.pure 1 (.pure 2 (.pure 3 (.pure 4 (.pure 5 (.pure 6 (.pure 7 (.pure 8 (.pure 9 (.pure 10 (.pure 11 (.e1 12 (.pure 13 .nil)))))))))))))) (by kernel_rfl) (by kernel_rfl) rfl (V2 2) ?_
  refine D4 rfl rfl rfl (fun ext => B1 0 rfl H1 rfl B5 (A0 rfl) rfl) ?_
  refine D4 rfl rfl rfl (fun ext => B0 0 rfl (A0 rfl) rfl C6 rfl) ?_
  refine D4 rfl rfl rfl (fun ext => N5 (places := #[(0, 1), (1, 1), (2, 1), (3, 1), (4, 1), (5, 1), (6, 1)]) rfl B7 Tryz.zeroValue104 (fun w => by kernel_rfl) rfl (D0 B4 (L8 _ _) (D0 (A0 rfl) (L8 _ _) G9)) rfl) ?_
  refine D4 rfl rfl rfl (fun ext => B8 rfl (A0 rfl)) ?_
  refine D4 rfl rfl rfl (fun ext => B1 2 rfl N3 rfl B5 (A0 rfl) rfl) ?_
  refine D4 rfl rfl rfl (fun ext => B0 1 rfl (A0 rfl) rfl C6 rfl) ?_
  refine D4 rfl rfl rfl (fun ext => O1 rfl (A0 rfl) B4) ?_
  refine D4 rfl rfl rfl (fun ext => B8 rfl (A0 rfl)) ?_
  refine T5 rfl rfl (I9 rfl rfl rfl) (fun hc ext => B1 3 rfl N3 rfl B5 (A0 rfl) rfl) ?_
  refine T5 rfl rfl (I9 rfl rfl rfl) (fun hc ext => B0 1 rfl (A9 rfl hc) rfl C6 rfl) ?_
  refine T5 rfl rfl (I9 rfl rfl rfl) (fun hc ext => O1 rfl (A9 rfl hc) B4) ?_
  refine D4 rfl rfl rfl (fun ext => J5 rfl (A0 rfl) (F7 rfl)) ?_
  refine T9 ?_
  refine j5 rfl rfl rfl (W7 4 rfl rfl (A0 rfl) (A0 rfl) (D6 _) rfl H8 rfl) (fun a _ => (by first | exact E1 rfl | exact E1 (List.append_assoc _ _ _) | exact H6)) ?_
  intro _ _
  refine D4 rfl rfl rfl (fun ext => B6 rfl (A0 rfl)) ?_
  refine W1 ?_
  refine B3 rfl ?_
  refine A4 ?_
  refine C2 ?_
  refine Q7 4 4 1 rfl rfl (O0 3 rfl rfl O3) ?_
  refine Q7 4 5 3 rfl rfl (O0 3 rfl rfl O3) ?_
  (refine L5 [3] ((⟨2, o.Txn, 0, 0, [], [], false⟩, p0, _)) ?_ rfl (by first | (dsimp only; rfl) | rfl) (V5 rfl (by decide) (E7 (J9 (ys := _) 4 rfl rfl O6 H8 rfl) (E7 (C1 rfl (by rfl)) (E7 (C1 rfl (by rfl)) M0)))); first | exact ⟨(show (0 : Nat) ≤ 1002 by decide), fun h => (by cases h)⟩ | exact ⟨(show (0 : Nat) ≤ 1002 by decide), fun _ => hp0m⟩ | exact ⟨(show (0 : Nat) ≤ 1002 by decide), fun h => (by (have h9 : ((a.Kind == 4 && (toldFO s0.Told o.Txn).2 && a.Time == 0 && a.Part != p0) && ((partsL d.Cuts (keysO o)).any fun y => a.Part == y)) = true := h; rw [Bool.and_eq_true] at h9; exact hpm _ (AA3 h9.2)))⟩ | exact ⟨(show sizeL (fun x : Str => x.length) (o.Reads.filter (inS d.Cuts a.Part)) + sizeL TWrite.size (o.Writes.filter fun w => inS d.Cuts a.Part w.Key) ≤ 1002 by omega), fun _ => hapm⟩)
 intro h132
 have k132 := M6 h132; try simp only [A8] at k132
 refine C3 (A3 ?_)
 refine P2 (by first | (simp only [splice, pick, U0, T6, T2, S4, S2, List.nil_append, U1, T7, List.append_nil, S5, List.take_zero, S8, List.drop_zero]; exact rfl) | exact rfl) ?_
 refine AWP.le (F8 [1, 3, 3] rfl) ?_
 refine Q2 _ 34 (.pure 0 (.pure 1 (.pure 2 (.pure 3 (.pure 4 (.pure 5 (.pure 6 (.pure 7 (.pure 8 (.pure 9 (.pure 10 (.pure 11 (.pure 12 (.pure 13 (.pure 14 (.pure 15 (.pure 16 (.pure 17 (.pure 18 (.pure 19 (.pure 20 (.pure 21 (.pure 22 (.pure 23 (.pure 24 (.pure 25 (.pure 26 (.pure 27 (.pure 28 (.pure 29 (.pure 30 (.pure 31 (.e1 32 (.pure 33 .nil)))))))))))))))))))))))))))))))))) (by kernel_rfl) (by kernel_rfl) rfl (V2 3) ?_
 refine D4 rfl rfl rfl (fun ext => B1 0 rfl H1 rfl B5 (A0 rfl) rfl) ?_
 refine D4 rfl rfl rfl (fun ext => B0 0 rfl (A0 rfl) rfl C6 rfl) ?_
 refine D4 rfl rfl rfl (fun ext => B1 2 rfl M9 rfl B5 (A0 rfl) rfl) ?_
 refine D4 rfl rfl rfl (fun ext => B0 2 rfl (A0 rfl) rfl C6 rfl) ?_
 refine D4 rfl rfl rfl (fun ext => B1 1 rfl M9 rfl N2 (A0 rfl) rfl) ?_
 refine D4 rfl rfl rfl (fun ext => B0 2 rfl (A0 rfl) rfl O5 rfl) ?_
 refine D4 rfl rfl rfl (fun ext => N5 (places := #[(0, 1), (1, 1), (2, 1), (3, 1), (4, 1), (5, 1), (6, 1)]) rfl B7 Tryz.zeroValue104 (fun w => by kernel_rfl) rfl (D0 B4 (L8 _ _) (D0 (A0 rfl) (L8 _ _) (D0 (A0 rfl) (L8 _ _) (D0 (A0 rfl) (f6 _) G9)))) rfl) ?_
 refine D4 rfl rfl rfl (fun ext => B1 2 rfl N3 rfl B5 (A0 rfl) rfl) ?_
 refine D4 rfl rfl rfl (fun ext => B0 1 rfl (A0 rfl) rfl C6 rfl) ?_
 refine D4 rfl rfl rfl (fun ext => B1 0 rfl N3 rfl B5 (A0 rfl) rfl) ?_
 refine D4 rfl rfl rfl (fun ext => B0 1 rfl (A0 rfl) rfl C6 rfl) ?_
 refine D4 rfl rfl rfl (fun ext => O1 rfl (A0 rfl) B4) ?_
 refine D4 rfl rfl rfl (fun ext => B8 rfl (A0 rfl)) ?_
 refine T5 rfl rfl (I9 rfl rfl rfl) (fun hc ext => B8 rfl (A0 rfl)) ?_
 refine D4 rfl rfl rfl (fun ext => J5 rfl (A0 rfl) (F7 rfl)) ?_
 refine D4 rfl rfl rfl (fun ext => B8 rfl (A0 rfl)) ?_
 refine T5 rfl rfl (I9 rfl rfl rfl) (fun hc ext => B1 3 rfl N3 rfl B5 (A0 rfl) rfl) ?_
 refine T5 rfl rfl (I9 rfl rfl rfl) (fun hc ext => B0 1 rfl (A9 rfl hc) rfl C6 rfl) ?_
 refine T5 rfl rfl (I9 rfl rfl rfl) (fun hc ext => O1 rfl (A9 rfl hc) B4) ?_
 refine D4 rfl rfl rfl (fun ext => J5 rfl (A0 rfl) (F7 rfl)) ?_
 refine D4 rfl rfl rfl (fun ext => B8 rfl (A0 rfl)) ?_
 refine T5 rfl rfl (I9 rfl rfl rfl) (fun hc ext => B1 2 rfl N3 rfl B5 (A0 rfl) rfl) ?_
 refine T5 rfl rfl (I9 rfl rfl rfl) (fun hc ext => B0 1 rfl (A9 rfl hc) rfl C6 rfl) ?_
 refine T5 rfl rfl (I9 rfl rfl rfl) (fun hc ext => B8 rfl (A0 rfl)) ?_
 refine T5 rfl rfl (I9 rfl rfl rfl) (fun hc ext => Z7 rfl (A9 rfl hc) (A9 rfl hc)) ?_
 refine D4 rfl rfl rfl (fun ext => J5 rfl (A0 rfl) (F7 rfl)) ?_
 refine D4 rfl rfl rfl (fun ext => B8 rfl (A0 rfl)) ?_
 refine T5 rfl rfl (I9 rfl rfl rfl) (fun hc ext => B8 rfl (A0 rfl)) ?_
 refine T5 rfl rfl (I9 rfl rfl rfl) (fun hc ext => B1 2 rfl N3 rfl B5 (A0 rfl) rfl) ?_
 refine T5 rfl rfl (I9 rfl rfl rfl) (fun hc ext => B0 1 rfl (A9 rfl hc) rfl C6 rfl) ?_
 refine T5 rfl rfl (I9 rfl rfl rfl) (fun hc ext => D7 rfl Tryz.call185 rfl (An9 _ _) (A6 (A9 rfl hc) (A6 (A9 rfl hc) C0))) ?_
 refine D4 rfl rfl rfl (fun ext => J5 rfl (A0 rfl) (F7 rfl)) ?_
 refine T9 ?_
 refine j5 rfl rfl rfl (W7 5 rfl rfl (A0 rfl) (A0 rfl) (D6 _) rfl H8 rfl) (fun a _ => (by first | exact E1 rfl | exact E1 (List.append_assoc _ _ _) | exact H6)) ?_
 intro _ _
 refine D4 rfl rfl rfl (fun ext => B6 rfl (A0 rfl)) ?_
 refine W1 ?_
 refine B3 rfl ?_
 refine A4 ?_
 refine C2 ?_
 refine Q7 5 4 1 rfl rfl (O0 4 rfl rfl O3) ?_
 refine Q7 5 5 3 rfl rfl (O0 4 rfl rfl O3) ?_
 (refine L5 [4] ((⟨3, o.Txn, (toldFO s0.Told o.Txn).1.Time, 0, [], [], (toldFO s0.Told o.Txn).1.Yes⟩, a.Part, _)) ?_ rfl (by first | (dsimp only; rfl) | rfl) (V5 rfl (by decide) (E7 (J9 (ys := _) 5 rfl rfl O6 H8 rfl) (E7 (C1 rfl (by rfl)) (E7 (C1 rfl (by rfl)) M0)))); first | exact ⟨(show (0 : Nat) ≤ 1002 by decide), fun h => (by cases h)⟩ | exact ⟨(show (0 : Nat) ≤ 1002 by decide), fun _ => hp0m⟩ | exact ⟨(show (0 : Nat) ≤ 1002 by decide), fun h => (by (have h9 : ((a.Kind == 4 && (toldFO s0.Told o.Txn).2 && a.Time == 0 && a.Part != p0) && ((partsL d.Cuts (keysO o)).any fun y => a.Part == y)) = true := h; rw [Bool.and_eq_true] at h9; exact hpm _ (AA3 h9.2)))⟩ | exact ⟨(show sizeL (fun x : Str => x.length) (o.Reads.filter (inS d.Cuts a.Part)) + sizeL TWrite.size (o.Writes.filter fun w => inS d.Cuts a.Part w.Key) ≤ 1002 by omega), fun _ => hapm⟩)
theorem Aq9 (u : Value) (d : TDeal) (a : TDealAct) (v : DV d) : GSpec Tryz.prog 109 [AV.agg [strs d.Cuts, AV.is u, AV.list 3 (d.Orders.map TOrder.cs)], AV.agg a.cs] [.arr u 53 4 (d.States.map TState.cs)] (fun x : (TDeal × Bool) × Value => x.1.2 = true → DV x.1.1) (fun x => [.arr u 53 4 (d.States.map TState.cs), .arr x.2 53 4 (x.1.1.States.map TState.cs)]) (fun x => AV.tup [AV.agg [strs x.1.1.Cuts, AV.is x.2, AV.list 3 (x.1.1.Orders.map TOrder.cs)], AV.bool x.1.2]) := by
 have hol := v.olen
 refine H3 Tryz.func109 rfl Tryz.ntmps109 rfl ?_
 refine A3 (A2 ?_)
 refine N1 rfl rfl rfl rfl (A0 rfl) ?_
 intro b2
 refine N1 rfl rfl rfl rfl (A0 rfl) ?_
 intro b3
 refine F5 rfl rfl rfl rfl Tryz.zeroValue43 rfl ?_
 intro b4
 refine A1 rfl (B6 rfl E9) ?_
 refine A4 (A3 (A2 ?_))
 refine A1 rfl (F1 2 rfl (A0 rfl) rfl K5 F4 rfl) ?_
 refine A1 rfl (B1 1 rfl N3 rfl B5 (A0 rfl) rfl) ?_
 refine A1 rfl (B0 1 rfl (A0 rfl) rfl C6 rfl) ?_
 refine A1 rfl (j8 rfl Tryz.call144 rfl (AZ7 d a.Txn (by omega)) (G7 _ _) (U9 (AJ8 (A0 rfl) (Z5 (G4 M4 (G4 (M8 (F9 (i := 3) rfl) I7) (G4 M4 U3))))) (U9 (evb (A0 rfl)) Z8))) ?_
 refine B3 rfl ?_
 refine A4 (A3 (A3 (A2 ?_)))
 refine A5 rfl ?_
 refine A1 rfl (J8 rfl (A0 rfl) B4) ?_
 refine A4 ?_
 refine B9 (A0 rfl) ?_ ?_
 ·intro h18
  have k18 := of_decide_eq_true h18; try simp only [A8] at k18
  refine A3 (A2 ?_)
  refine A1 rfl (N5 (places := #[(0, 1), (1, 1), (2, 1)]) rfl E8 Tryz.zeroValue43 (fun w => by kernel_rfl) rfl G9 rfl) ?_
  refine D2 0 rfl rfl rfl (A0 rfl) (A0 rfl) (D6 _) rfl F4 rfl ?_
  refine A1 rfl (B6 rfl E9) ?_
  refine A4 ?_
  refine C2 ?_
  refine Q7 0 0 1 rfl rfl (O0 3 rfl rfl O3) ?_
  refine Q7 0 2 3 rfl rfl (O0 3 rfl rfl O3) ?_
  refine Y4 53 4 ?_
  (refine L5 [4, 0] (((⟨[], [], []⟩, false), (Value.slice none 0 0))) ?_ rfl (by first | rfl | (dsimp only; rw [p5 hs1]; rfl)) (V5 rfl (by decide) (E7 (J9 (ys := _) 1 rfl rfl K5 F4 rfl) (E7 (C1 rfl (by rfl)) M0))); first | exact fun h => absurd (show false = true from h) (by decide) | exact fun _ => ⟨v.clen, v.ckey, (by dsimp only; rw [List.length_set]; exact v.slen), fun s hs => (by (rcases List.mem_or_eq_of_mem_set hs with hs | hs; (exact v.st s hs); (rw [hs]; exact hag))), v.os, v.olen⟩)
 intro h18
 have k18 := of_decide_eq_false h18; try simp only [A8] at k18
 have hat : ¬ dealAt d.Orders a.Txn < 0 := by (simpa using h18)
 obtain ⟨x, hx⟩ := AZ8 hat
 have hxo := v.os x (F9 hx)
 refine C3 (A3 ?_)
 refine P2 (by first | (simp only [splice, pick, U0, T6, T2, S4, S2, List.nil_append, U1, T7, List.append_nil, S5, List.take_zero, S8, List.drop_zero]; exact rfl) | exact rfl) ?_
 refine AWP.le (F8 [2, 1] rfl) ?_
 refine Q2 _ 15 (.pure 0 (.pure 1 (.pure 2 (.pure 3 (.pure 4 (.pure 5 (.pure 6 (.e2 7 (.pure 8 (.pure 9 (.pure 10 (.pure 11 (.e1 12 (.e1 13 (.pure 14 .nil))))))) 12 (.e1 7 (.pure 8 (.pure 9 (.pure 10 (.pure 11 (.e1 13 (.pure 14 .nil))))))))))))))) (by kernel_rfl) (by kernel_rfl) rfl (V2 2) ?_
 refine D4 rfl rfl rfl (fun ext => F1 0 rfl (A0 rfl) rfl K5 F4 rfl) ?_
 refine D4 rfl rfl rfl (fun ext => B1 2 rfl E8 rfl U4 (A0 rfl) rfl) ?_
 refine D4 rfl rfl rfl (fun ext => B0 0 rfl (A0 rfl) rfl V7 rfl) ?_
 refine D4 rfl rfl rfl (fun ext => B8 rfl (A0 rfl)) ?_
 refine D4 rfl rfl rfl (fun ext => I2 rfl I0 H4 (A0 rfl) (A0 rfl) hx (by omega)) ?_
 refine D4 rfl rfl rfl (fun ext => K6 rfl (A0 rfl) Q4 H4) ?_
 refine D4 rfl rfl rfl (fun ext => F1 1 rfl (A0 rfl) rfl Y2 S7 rfl) ?_
 refine AD3 ?_ ?_
 ·refine S6 rfl rfl rfl (Y0 [3] rfl Tryz.call146 rfl (AV6 u d x a v hxo) (A6 (A0 rfl) (A6 (A0 rfl) (A6 (A0 rfl) C0))) rfl) (fun a _ => (by first | exact E1 rfl | exact E1 (List.append_assoc _ _ _) | exact H6)) ?_
  intro x28 ok28
  refine D4 rfl rfl rfl (fun ext => B8 rfl (A0 rfl)) ?_
  refine D4 rfl rfl rfl (fun ext => G6 rfl (A0 rfl) rfl) ?_
  refine D4 rfl rfl rfl (fun ext => G6 rfl (A0 rfl) rfl) ?_
  refine D4 rfl rfl rfl (fun ext => G6 rfl (A0 rfl) rfl) ?_
  refine T9 ?_
  refine S6 rfl rfl rfl (X4 rfl Tryz.zeroValue104 rfl) (fun a _ => (by first | exact E1 rfl | exact E1 (List.append_assoc _ _ _) | exact H6)) ?_
  intro b7 _
  refine T9 ?_
  refine j5 rfl rfl rfl (W7 4 rfl rfl (A0 rfl) (A0 rfl) (D6 _) rfl H8 rfl) (fun a _ => (by first | exact E1 rfl | exact E1 (List.append_assoc _ _ _) | exact H6)) ?_
  intro _ _
  refine D4 rfl rfl rfl (fun ext => B6 rfl (A0 rfl)) ?_
  refine W1 ?_
  refine B3 rfl ?_
  refine A4 (A3 (A3 (A2 ?_)))
  refine A5 rfl ?_
  refine A1 rfl (M2 rfl (A0 rfl)) ?_
  refine A4 ?_
  refine B9 (A0 rfl) ?_ ?_
  ·intro h33
   refine A3 (A2 ?_)
   refine A1 rfl (N5 (places := #[(0, 1), (1, 1), (2, 1)]) rfl E8 Tryz.zeroValue43 (fun w => by kernel_rfl) rfl G9 rfl) ?_
   refine D2 2 rfl rfl rfl (A0 rfl) (A0 rfl) (D6 _) rfl F4 rfl ?_
   refine A1 rfl (B6 rfl E9) ?_
   refine A4 ?_
   refine C2 ?_
   refine Q7 2 0 1 rfl rfl (O0 3 rfl rfl O3) ?_
   refine Q7 2 2 3 rfl rfl (O0 3 rfl rfl O3) ?_
   refine Y4 53 4 ?_
   (refine L5 [4, 0] (((⟨[], [], []⟩, false), (Value.slice none 0 0))) ?_ rfl (by first | rfl | (dsimp only; rw [p5 hs1]; rfl)) (V5 rfl (by decide) (E7 (J9 (ys := _) 3 rfl rfl K5 F4 rfl) (E7 (C1 rfl (by rfl)) M0))); first | exact fun h => absurd (show false = true from h) (by decide) | exact fun _ => ⟨v.clen, v.ckey, (by dsimp only; rw [List.length_set]; exact v.slen), fun s hs => (by (rcases List.mem_or_eq_of_mem_set hs with hs | hs; (exact v.st s hs); (rw [hs]; exact hag))), v.os, v.olen⟩)
  intro h33
  have hok := ok28.2 (by simpa using h33)
  obtain ⟨s1, hs1⟩ := get_some (show x28.2.1.toNat < d.States.length by omega)
  have hs1z := v.st s1 (F9 hs1)
  have hrow1 : (d.States.map TState.cs)[x28.2.1.toNat]? = some s1.cs := (by rw [List.getElem?_map, hs1]; rfl)
  refine C3 (A3 ?_)
  refine P2 (by first | (simp only [splice, pick, U0, T6, T2, S4, S2, List.nil_append, U1, T7, List.append_nil, S5, List.take_zero, S8, List.drop_zero]; exact rfl) | exact rfl) ?_
  refine AWP.le (F8 [0, 3, 2] rfl) ?_
  refine Q2 _ 12 (.pure 0 (.pure 1 (.pure 2 (.pure 3 (.pure 4 (.pure 5 (.pure 6 (.pure 7 (.pure 8 (.pure 9 (.e1 10 (.e1 11 .nil)))))))))))) (by kernel_rfl) (by kernel_rfl) rfl (V2 3) ?_
  refine D4 rfl rfl rfl (fun ext => B1 1 rfl E8 rfl N8 (A0 rfl) rfl) ?_
  refine D4 rfl rfl rfl (fun ext => B0 0 rfl (A0 rfl) rfl Q6 rfl) ?_
  refine D4 rfl rfl rfl (fun ext => B8 rfl (A0 rfl)) ?_
  refine D4 rfl rfl rfl (fun ext => U7 2 rfl J2 C5 (A0 rfl) rfl (A0 rfl) (by omega) (by simp only [A8]; omega)) ?_
  refine D4 rfl rfl rfl (fun ext => c0 2 rfl (A0 rfl) rfl F0 C5 hrow1 (by decide)) ?_
  refine D4 rfl rfl rfl (fun ext => F1 1 rfl (A0 rfl) rfl O6 H8 rfl) ?_
  refine D4 rfl rfl rfl (fun ext => D7 rfl Tryz.call147 rfl (AL6 s1 x28.1 (by omega) (by omega)) (A6 (A0 rfl) (A6 (A0 rfl) C0))) ?_
  refine D4 rfl rfl rfl (fun ext => B8 rfl (A0 rfl)) ?_
  refine D4 rfl rfl rfl (fun ext => G6 rfl (A0 rfl) rfl) ?_
  refine D4 rfl rfl rfl (fun ext => G6 rfl (A0 rfl) rfl) ?_
  refine T9 ?_
  refine S6 rfl rfl rfl (X4 rfl Tryz.zeroValue53 rfl) (fun a _ => (by first | exact E1 rfl | exact E1 (List.append_assoc _ _ _) | exact H6)) ?_
  intro b10 _
  refine T9 ?_
  refine j5 rfl rfl rfl (W7 5 rfl rfl (A0 rfl) (A0 rfl) (D6 _) rfl C5 rfl) (fun a _ => (by first | exact E1 rfl | exact E1 (List.append_assoc _ _ _) | exact H6)) ?_
  intro _ _
  refine W1 ?_
  refine B3 rfl ?_
  refine A4 (A3 (A3 (A2 ?_)))
  refine A5 rfl ?_
  refine A1 rfl (M2 rfl (A0 rfl)) ?_
  refine A4 ?_
  refine B9 (A0 rfl) ?_ ?_
  ·intro h46
   refine A3 (A2 ?_)
   refine A1 rfl (N5 (places := #[(0, 1), (1, 1), (2, 1)]) rfl E8 Tryz.zeroValue43 (fun w => by kernel_rfl) rfl G9 rfl) ?_
   refine D2 4 rfl rfl rfl (A0 rfl) (A0 rfl) (D6 _) rfl F4 rfl ?_
   refine A1 rfl (B6 rfl E9) ?_
   refine A4 ?_
   refine C2 ?_
   refine Q7 4 0 1 rfl rfl (O0 2 rfl rfl O3) ?_
   refine Q7 4 2 3 rfl rfl (O0 2 rfl rfl O3) ?_
   refine Y4 53 4 ?_
   (refine L5 [3, 0] (((⟨[], [], []⟩, false), (Value.slice none 0 0))) ?_ rfl (by first | rfl | (dsimp only; rw [p5 hs1]; rfl)) (V5 rfl (by decide) (E7 (J9 (ys := _) 5 rfl rfl K5 F4 rfl) (E7 (C1 rfl (by rfl)) M0))); first | exact fun h => absurd (show false = true from h) (by decide) | exact fun _ => ⟨v.clen, v.ckey, (by dsimp only; rw [List.length_set]; exact v.slen), fun s hs => (by (rcases List.mem_or_eq_of_mem_set hs with hs | hs; (exact v.st s hs); (rw [hs]; exact hag))), v.os, v.olen⟩)
  intro h46
  have hag := AL9 (Ag4 (s := s1) (r := x28.1) (by simpa using h46))
  refine C3 (A3 ?_)
  refine P2 (by first | (simp only [splice, pick, U0, T6, T2, S4, S2, List.nil_append, U1, T7, List.append_nil, S5, List.take_zero, S8, List.drop_zero]; exact rfl) | exact rfl) ?_
  refine A2 ?_
  refine A1 rfl (F1 0 rfl (A0 rfl) rfl K5 F4 rfl) ?_
  refine H9 [2] rfl rfl rfl rfl Tryz.call108 rfl (AV5 u d v.b) (A6 (A0 rfl) C0) rfl ?_
  intro x49 ok49
  refine F5 rfl rfl rfl rfl Tryz.zeroValue43 rfl ?_
  intro b12
  refine D2 0 rfl rfl rfl (A0 rfl) (A0 rfl) (D6 _) rfl F4 rfl ?_
  refine A4 (A3 ?_)
  rw [Ax6 hs1]
  refine P2 (by first | (simp only [splice, pick, U0, T6, T2, S4, S2, List.nil_append, U1, T7, List.append_nil, S5, List.take_zero, S8, List.drop_zero]; exact rfl) | exact rfl) ?_
  refine A2 ?_
  refine A1 rfl (B1 1 rfl E8 rfl N8 (A0 rfl) rfl) ?_
  refine A1 rfl (B0 0 rfl (A0 rfl) rfl Q6 rfl) ?_
  refine A5 rfl ?_
  refine A1 rfl (F1 7 rfl (A0 rfl) rfl F0 C5 rfl) ?_
  refine A1 rfl (U7 2 rfl J2 C5 (A0 rfl) rfl (A0 rfl) (by omega) (by rw [J6, I5, A8, D9]; omega)) ?_
  refine AD0 2 rfl rfl rfl (A0 rfl) (A0 rfl) (D6 _) rfl C5 rfl (by rw [A8, D9]; omega) ?_
  refine A4 (A3 (A2 ?_))
  refine A1 rfl (F1 0 rfl (A0 rfl) rfl K5 F4 rfl) ?_
  refine D2 6 rfl rfl rfl (A0 rfl) (A0 rfl) (D6 _) rfl F4 rfl ?_
  refine A1 rfl (B6 rfl E9) ?_
  refine A4 ?_
  refine C2 ?_
  (refine L5 [1, 1] (((⟨d.Cuts, d.States.set x28.2.1.toNat (applyRecR s1 x28.1).1, d.Orders⟩, true), x49)) ?_ rfl (by first | rfl | (dsimp only; rw [p5 hs1]; rfl)) (V5 rfl (by decide) (E7 (J9 (ys := _) 6 rfl rfl K5 F4 rfl) (E7 (C1 rfl (by rfl)) M0))); first | exact fun h => absurd (show false = true from h) (by decide) | exact fun _ => ⟨v.clen, v.ckey, (by dsimp only; rw [List.length_set]; exact v.slen), fun s hs => (by (rcases List.mem_or_eq_of_mem_set hs with hs | hs; (exact v.st s hs); (rw [hs]; exact hag))), v.os, v.olen⟩)
 refine S6 rfl rfl rfl (X4 rfl Tryz.zeroValue104 rfl) (fun a _ => (by first | exact E1 rfl | exact E1 (List.append_assoc _ _ _) | exact H6)) ?_
 intro b7 _
 refine T9 ?_
 refine S6 rfl rfl rfl (Y0 [3] rfl Tryz.call146 rfl (AV6 u d x a v hxo) (A6 (A0 rfl) (A6 (A0 rfl) (A6 (A0 rfl) C0))) rfl) (fun a _ => (by first | exact E1 rfl | exact E1 (List.append_assoc _ _ _) | exact H6)) ?_
 intro x28 ok28
 refine D4 rfl rfl rfl (fun ext => B8 rfl (A0 rfl)) ?_
 refine D4 rfl rfl rfl (fun ext => G6 rfl (A0 rfl) rfl) ?_
 refine D4 rfl rfl rfl (fun ext => G6 rfl (A0 rfl) rfl) ?_
 refine D4 rfl rfl rfl (fun ext => G6 rfl (A0 rfl) rfl) ?_
 refine T9 ?_
 refine j5 rfl rfl rfl (W7 3 rfl rfl (A0 rfl) (A0 rfl) (D6 _) rfl H8 rfl) (fun a _ => (by first | exact E1 rfl | exact E1 (List.append_assoc _ _ _) | exact H6)) ?_
 intro _ _
 refine D4 rfl rfl rfl (fun ext => B6 rfl (A0 rfl)) ?_
 refine W1 ?_
 refine B3 rfl ?_
 refine A4 (A3 (A3 (A2 ?_)))
 refine A5 rfl ?_
 refine A1 rfl (M2 rfl (A0 rfl)) ?_
 refine A4 ?_
 refine B9 (A0 rfl) ?_ ?_
 ·intro h33
  refine A3 (A2 ?_)
  refine A1 rfl (N5 (places := #[(0, 1), (1, 1), (2, 1)]) rfl E8 Tryz.zeroValue43 (fun w => by kernel_rfl) rfl G9 rfl) ?_
  refine D2 2 rfl rfl rfl (A0 rfl) (A0 rfl) (D6 _) rfl F4 rfl ?_
  refine A1 rfl (B6 rfl E9) ?_
  refine A4 ?_
  refine C2 ?_
  refine Q7 2 0 1 rfl rfl (O0 4 rfl rfl O3) ?_
  refine Q7 2 2 3 rfl rfl (O0 4 rfl rfl O3) ?_
  refine Y4 53 4 ?_
  (refine L5 [5, 0] (((⟨[], [], []⟩, false), (Value.slice none 0 0))) ?_ rfl (by first | rfl | (dsimp only; rw [p5 hs1]; rfl)) (V5 rfl (by decide) (E7 (J9 (ys := _) 3 rfl rfl K5 F4 rfl) (E7 (C1 rfl (by rfl)) M0))); first | exact fun h => absurd (show false = true from h) (by decide) | exact fun _ => ⟨v.clen, v.ckey, (by dsimp only; rw [List.length_set]; exact v.slen), fun s hs => (by (rcases List.mem_or_eq_of_mem_set hs with hs | hs; (exact v.st s hs); (rw [hs]; exact hag))), v.os, v.olen⟩)
 intro h33
 have hok := ok28.2 (by simpa using h33)
 obtain ⟨s1, hs1⟩ := get_some (show x28.2.1.toNat < d.States.length by omega)
 have hs1z := v.st s1 (F9 hs1)
 have hrow1 : (d.States.map TState.cs)[x28.2.1.toNat]? = some s1.cs := (by rw [List.getElem?_map, hs1]; rfl)
 refine C3 (A3 ?_)
 refine P2 (by first | (simp only [splice, pick, U0, T6, T2, S4, S2, List.nil_append, U1, T7, List.append_nil, S5, List.take_zero, S8, List.drop_zero]; exact rfl) | exact rfl) ?_
 refine AWP.le (F8 [0, 2, 2] rfl) ?_
 refine Q2 _ 12 (.pure 0 (.pure 1 (.pure 2 (.pure 3 (.pure 4 (.pure 5 (.pure 6 (.pure 7 (.pure 8 (.pure 9 (.e1 10 (.e1 11 .nil)))))))))))) (by kernel_rfl) (by kernel_rfl) rfl (V2 3) ?_
 refine D4 rfl rfl rfl (fun ext => B1 1 rfl E8 rfl N8 (A0 rfl) rfl) ?_
 refine D4 rfl rfl rfl (fun ext => B0 0 rfl (A0 rfl) rfl Q6 rfl) ?_
 refine D4 rfl rfl rfl (fun ext => B8 rfl (A0 rfl)) ?_
 refine D4 rfl rfl rfl (fun ext => U7 2 rfl J2 C5 (A0 rfl) rfl (A0 rfl) (by omega) (by simp only [A8]; omega)) ?_
 refine D4 rfl rfl rfl (fun ext => c0 2 rfl (A0 rfl) rfl F0 C5 hrow1 (by decide)) ?_
 refine D4 rfl rfl rfl (fun ext => F1 1 rfl (A0 rfl) rfl O6 H8 rfl) ?_
 refine D4 rfl rfl rfl (fun ext => D7 rfl Tryz.call147 rfl (AL6 s1 x28.1 (by omega) (by omega)) (A6 (A0 rfl) (A6 (A0 rfl) C0))) ?_
 refine D4 rfl rfl rfl (fun ext => B8 rfl (A0 rfl)) ?_
 refine D4 rfl rfl rfl (fun ext => G6 rfl (A0 rfl) rfl) ?_
 refine D4 rfl rfl rfl (fun ext => G6 rfl (A0 rfl) rfl) ?_
 refine T9 ?_
 refine S6 rfl rfl rfl (X4 rfl Tryz.zeroValue53 rfl) (fun a _ => (by first | exact E1 rfl | exact E1 (List.append_assoc _ _ _) | exact H6)) ?_
 intro b10 _
 refine T9 ?_
 refine j5 rfl rfl rfl (W7 5 rfl rfl (A0 rfl) (A0 rfl) (D6 _) rfl C5 rfl) (fun a _ => (by first | exact E1 rfl | exact E1 (List.append_assoc _ _ _) | exact H6)) ?_
 intro _ _
 refine W1 ?_
 refine B3 rfl ?_
 refine A4 (A3 (A3 (A2 ?_)))
 refine A5 rfl ?_
 refine A1 rfl (M2 rfl (A0 rfl)) ?_
 refine A4 ?_
 refine B9 (A0 rfl) ?_ ?_
 ·intro h46
  refine A3 (A2 ?_)
  refine A1 rfl (N5 (places := #[(0, 1), (1, 1), (2, 1)]) rfl E8 Tryz.zeroValue43 (fun w => by kernel_rfl) rfl G9 rfl) ?_
  refine D2 4 rfl rfl rfl (A0 rfl) (A0 rfl) (D6 _) rfl F4 rfl ?_
  refine A1 rfl (B6 rfl E9) ?_
  refine A4 ?_
  refine C2 ?_
  refine Q7 4 0 1 rfl rfl (O0 2 rfl rfl O3) ?_
  refine Q7 4 2 3 rfl rfl (O0 2 rfl rfl O3) ?_
  refine Y4 53 4 ?_
  (refine L5 [3, 0] (((⟨[], [], []⟩, false), (Value.slice none 0 0))) ?_ rfl (by first | rfl | (dsimp only; rw [p5 hs1]; rfl)) (V5 rfl (by decide) (E7 (J9 (ys := _) 5 rfl rfl K5 F4 rfl) (E7 (C1 rfl (by rfl)) M0))); first | exact fun h => absurd (show false = true from h) (by decide) | exact fun _ => ⟨v.clen, v.ckey, (by dsimp only; rw [List.length_set]; exact v.slen), fun s hs => (by (rcases List.mem_or_eq_of_mem_set hs with hs | hs; (exact v.st s hs); (rw [hs]; exact hag))), v.os, v.olen⟩)
 intro h46
 have hag := AL9 (Ag4 (s := s1) (r := x28.1) (by simpa using h46))
 refine C3 (A3 ?_)
 refine P2 (by first | (simp only [splice, pick, U0, T6, T2, S4, S2, List.nil_append, U1, T7, List.append_nil, S5, List.take_zero, S8, List.drop_zero]; exact rfl) | exact rfl) ?_
 refine A2 ?_
 refine A1 rfl (F1 0 rfl (A0 rfl) rfl K5 F4 rfl) ?_
 refine H9 [2] rfl rfl rfl rfl Tryz.call108 rfl (AV5 u d v.b) (A6 (A0 rfl) C0) rfl ?_
 intro x49 ok49
 refine F5 rfl rfl rfl rfl Tryz.zeroValue43 rfl ?_
 intro b12
 refine D2 0 rfl rfl rfl (A0 rfl) (A0 rfl) (D6 _) rfl F4 rfl ?_
 refine A4 (A3 ?_)
 rw [Ax6 hs1]
 refine P2 (by first | (simp only [splice, pick, U0, T6, T2, S4, S2, List.nil_append, U1, T7, List.append_nil, S5, List.take_zero, S8, List.drop_zero]; exact rfl) | exact rfl) ?_
 refine A2 ?_
 refine A1 rfl (B1 1 rfl E8 rfl N8 (A0 rfl) rfl) ?_
 refine A1 rfl (B0 0 rfl (A0 rfl) rfl Q6 rfl) ?_
 refine A5 rfl ?_
 refine A1 rfl (F1 7 rfl (A0 rfl) rfl F0 C5 rfl) ?_
 refine A1 rfl (U7 2 rfl J2 C5 (A0 rfl) rfl (A0 rfl) (by omega) (by rw [J6, I5, A8, D9]; omega)) ?_
 refine AD0 2 rfl rfl rfl (A0 rfl) (A0 rfl) (D6 _) rfl C5 rfl (by rw [A8, D9]; omega) ?_
 refine A4 (A3 (A2 ?_))
 refine A1 rfl (F1 0 rfl (A0 rfl) rfl K5 F4 rfl) ?_
 refine D2 6 rfl rfl rfl (A0 rfl) (A0 rfl) (D6 _) rfl F4 rfl ?_
 refine A1 rfl (B6 rfl E9) ?_
 refine A4 ?_
 refine C2 ?_
 (refine L5 [1, 1] (((⟨d.Cuts, d.States.set x28.2.1.toNat (applyRecR s1 x28.1).1, d.Orders⟩, true), x49)) ?_ rfl (by first | rfl | (dsimp only; rw [p5 hs1]; rfl)) (V5 rfl (by decide) (E7 (J9 (ys := _) 6 rfl rfl K5 F4 rfl) (E7 (C1 rfl (by rfl)) M0))); first | exact fun h => absurd (show false = true from h) (by decide) | exact fun _ => ⟨v.clen, v.ckey, (by dsimp only; rw [List.length_set]; exact v.slen), fun s hs => (by (rcases List.mem_or_eq_of_mem_set hs with hs | hs; (exact v.st s hs); (rw [hs]; exact hag))), v.os, v.olen⟩)
end Go.Proofs.YtoaoicnnimjbeaaGreat

namespace Go.Proofs.YtoaoicnnimjbeaaGreat
open Go Go.AV Go.M
attribute [local irreducible] OpW OpA OpS AWP FSpec ESpec GSpec OpE RetOk RetOkG RvDen Le Ev GuardIs SrcIs SrcE Int.tmod IntKind.wrap bandI
theorem Aj3 (d : TDeal) (b : DealB d) : FSpec Tryz.prog 50 [AV.agg d.cs] (AV.agg d.cs) :=
  Q5 (Ax2 d b) fun v _ => Z5 (G4 M4 (G4 (M8 (F9 (i := 0) rfl) I7) (G4 (M8 (F9 (i := 1) rfl) I7) U3)))
theorem Ax7 (cuts : List Str) (os : List TOrder) (b : DealB (emptyDeal cuts os)) : FSpec Tryz.prog 21 [strs cuts, AV.list 3 (os.map TOrder.cs)] (AV.tup [AV.agg (newDealR cuts os).1.cs, AV.bool (newDealR cuts os).2]) := by
 have hcl := b.slen
 rw [show (emptyDeal cuts os).States.length = cuts.length + 1 from List.length_replicate] at hcl
 refine E2 Tryz.func21 rfl Tryz.ntmps21 rfl ?_
 refine A3 (A2 ?_)
 refine F5 rfl rfl rfl rfl Tryz.zeroValue43 rfl ?_
 intro b4
 refine A1 rfl (B6 rfl E9) ?_
 refine A4 (A3 (A2 ?_))
 refine A5 rfl ?_
 refine A5 rfl ?_
 refine A1 rfl (F6 rfl C9 (A0 rfl)) ?_
 refine A1 rfl (w_natc (a := ((cuts.map fun s => [AV.str s]).length : Int) + 1) (cuts.length + 1) (G0 rfl (A0 rfl) B4 (by rw [A8]; omega)) (by rw [A8]; omega)) ?_
 refine sq_make (by' := 80) rfl rfl rfl rfl J2 Tryz.type53 rfl rfl rfl rfl rfl rfl (A0 rfl) (A0 rfl) (by omega) (by omega) ?_
 intro v11
 refine A5 rfl ?_
 refine T8 0 rfl fun one_v11 => ?_
 refine A1 rfl (N5 (places := #[(0, 1), (1, 1), (2, 1)]) rfl E8 Tryz.zeroValue43 (fun w => by kernel_rfl) rfl (D0 (A0 rfl) (O9 _ _) (D0 (A0 rfl) (U2 one_v11) (D0 (A0 rfl) (O9 _ _) G9))) rfl) ?_
 refine F5 rfl rfl rfl rfl Tryz.zeroValue43 rfl ?_
 intro b6
 refine D2 0 rfl rfl rfl (A0 rfl) (A0 rfl) (D6 _) rfl F4 rfl ?_
 refine A4 (A3 (A3 ?_))
 refine AWP.le (le_sealT 3 1 (.arr v11 53 4 ((List.replicate (cuts.length + 1) zState).map TState.cs)) rfl (⟨rfl, rfl, rfl, Ax4 _⟩) AH0) ?_
 refine AWP.le (i0 [1] 0 (.box b6 43 [_, _, _]) rfl rfl ⟨rfl, rfl, (G4 M4 (G4 (M8 (F9 (i := 0) rfl) I7) (G4 M4 U3)))⟩ AH0) ?_
 refine A2 ?_
 refine A1 rfl (F1 0 rfl (A0 rfl) rfl K5 F4 rfl) ?_
 refine A1 rfl (D7 rfl Tryz.call24 rfl (AC4 (emptyDeal cuts os) b) (A6 (A0 rfl) C0)) ?_
 refine A1 rfl (M2 rfl (A0 rfl)) ?_
 refine A4 ?_
 refine B9 (A0 rfl) ?_ ?_
 ·intro h16
  rw [AA2] at h16
  have he : newDealR cuts os = (⟨[], [], []⟩, false) := by (unfold newDealR; rw [if_neg (by cases h1 : l15Cuts cuts <;> cases h2 : goodOs os <;> simp_all)])
  rw [he]
  refine A3 (A2 ?_)
  refine A1 rfl (N5 (places := #[(0, 1), (1, 1), (2, 1)]) rfl E8 Tryz.zeroValue43 (fun w => by kernel_rfl) rfl G9 rfl) ?_
  refine D2 1 rfl rfl rfl (A0 rfl) (A0 rfl) (D6 _) rfl F4 rfl ?_
  refine A1 rfl (B6 rfl E9) ?_
  refine A4 ?_
  refine C2 ?_
  refine Y7 1 0 1 rfl rfl ?_
  refine Y7 1 1 4 rfl rfl ?_
  refine Y7 1 2 3 rfl rfl ?_
  exact X8 rfl (by decide) (E7 (J9 (ys := _) 1 rfl rfl K5 F4 rfl) (E7 (C1 rfl (by rfl)) M0))
 intro h16
 rw [AA2] at h16
 have he : newDealR cuts os = (emptyDeal cuts os, true) := by (unfold newDealR; rw [if_pos (by simpa using h16)])
 rw [he]
 refine C3 (A3 (A2 ?_))
 refine A1 rfl (F1 0 rfl (A0 rfl) rfl K5 F4 rfl) ?_
 refine A1 rfl (D7 rfl Tryz.call50 rfl (Aj3 (emptyDeal cuts os) b) (A6 (A0 rfl) C0)) ?_
 refine D2 1 rfl rfl rfl (A0 rfl) (A0 rfl) (D6 _) rfl F4 rfl ?_
 refine A1 rfl (B6 rfl E9) ?_
 refine A4 ?_
 refine C2 ?_
 exact X8 rfl (by decide) (E7 (J9 (ys := _) 1 rfl rfl K5 F4 rfl) (E7 (C1 rfl (by rfl)) M0))
theorem Ax8 (d : TDeal) (al : List TDealAct) (v : DV d) (hl : al.length ≤ 1000) : GSpec Tryz.prog 77 [AV.agg d.cs, AV.list 4 (al.map TDealAct.cs)] [] (fun x : (TDeal × List Bool) × Value × Value => DV x.1.1) (fun x => [.arr x.2.1 53 4 (x.1.1.States.map TState.cs), .arr x.2.2 4 1 (x.1.2.map fun b => [AV.bool b])]) (fun x => AV.tup [AV.agg [strs x.1.1.Cuts, AV.is x.2.1, AV.list 3 (x.1.1.Orders.map TOrder.cs)], AV.is x.2.2]) := by
 refine H3 Tryz.func77 rfl Tryz.ntmps77 rfl ?_
 refine A3 (A2 ?_)
 refine N1 rfl rfl rfl rfl (A0 rfl) ?_
 intro b2
 refine F5 rfl rfl rfl rfl Tryz.zeroValue43 rfl ?_
 intro b4
 refine A1 rfl (B6 rfl L4) ?_
 refine A4 (A3 (A2 ?_))
 refine A1 rfl (F1 1 rfl (A0 rfl) rfl K5 F4 rfl) ?_
 refine H9 [] rfl rfl rfl rfl Tryz.call108 rfl (BA9 d v.b) (A6 (A0 rfl) C0) rfl ?_
 intro x13 ok13
 refine F5 rfl rfl rfl rfl Tryz.zeroValue43 rfl ?_
 intro b6
 refine D2 0 rfl rfl rfl (A0 rfl) (A0 rfl) (D6 _) rfl F4 rfl ?_
 refine A4 (A3 (A2 ?_))
 refine S0 4 1 rfl rfl rfl rfl L4 ?_
 intro v7
 refine A4 (A3 (A3 (A2 ?_)))
 refine A5 rfl ?_
 refine A1 rfl (F6 rfl Tryz.underlying106 (A0 rfl)) ?_
 refine A1 rfl (B8 rfl B4) ?_
 refine A4 (C7 ?_)
 refine AWP.le (F8 [1, 1, 0] rfl) ?_
 refine AX5 [(4, _), (5, _), (6, _), (14, _), (15, _)] _ (fun (i : Nat) (e : TDeal) (u : Value) (bs : List Bool) (w : Value) => i ≤ al.length ∧ DV e ∧ bs.length = i) (fun (i : Nat) (e : TDeal) (u : Value) (bs : List Bool) (w : Value) => [.box b6 43 [strs e.Cuts, AV.is u, AV.list 3 (e.Orders.map TOrder.cs)], .arr u 53 4 (e.States.map TState.cs), .arr w 4 1 (bs.map fun b => [AV.bool b])]) (fun (i : Nat) (e : TDeal) (u : Value) (bs : List Bool) (w : Value) => [(7, AV.is w), (16, AV.int i)]) (fun (i : Nat) (e : TDeal) (u : Value) (bs : List Bool) (w : Value) => al.length - i) (0) (d) (x13) ([]) (v7) ?_ (O8 (by rfl) ⟨rfl, rfl, rfl, rfl, rfl, rfl, rfl, trivial⟩) ?_
 ·exact ⟨Nat.zero_le _, v, rfl⟩
 intro i e u bs w hinv
 refine A3 (A2 ?_)
 refine A1 rfl (J8 rfl (A0 rfl) (A0 rfl)) ?_
 refine A4 (A3 ?_)
 refine B9 (A0 rfl) ?_ ?_
 ·intro h17
  have k17 := of_decide_eq_true h17; try simp only [A8] at k17
  have hlt : i < al.length := by (simpa using h17)
  obtain ⟨x, hx⟩ := get_some hlt
  have hbl := hinv.2.2
  refine C3 (A3 (C7 (A3 (A2 ?_))))
  refine A1 rfl (I2 rfl Tryz.underlying106 S7 (A0 rfl) (A0 rfl) hx (by first | omega | (simp only [C8, A7, szR] at *; omega))) ?_
  refine A1 rfl (K6 rfl (A0 rfl) Y2 S7) ?_
  refine F5 rfl rfl rfl rfl Tryz.zeroValue146 rfl ?_
  intro b9
  refine D2 0 rfl rfl rfl (A0 rfl) (A0 rfl) (D6 _) rfl S7 rfl ?_
  refine A4 (A3 (A2 ?_))
  refine A1 rfl (F1 1 rfl (A0 rfl) rfl K5 F4 rfl) ?_
  refine A1 rfl (F1 0 rfl (A0 rfl) rfl Y2 S7 rfl) ?_
  refine H9 [2] rfl rfl rfl rfl Tryz.call109 rfl (Aq9 u e x hinv.2.1) (A6 (A0 rfl) (A6 (A0 rfl) C0)) rfl ?_
  intro x23 ok23
  refine A5 rfl ?_
  refine A1 rfl (G6 rfl (A0 rfl) rfl) ?_
  refine A1 rfl (G6 rfl (A0 rfl) rfl) ?_
  refine F5 rfl rfl rfl rfl Tryz.zeroValue43 rfl ?_
  intro b10
  refine D2 0 rfl rfl rfl (A0 rfl) (A0 rfl) (D6 _) rfl F4 rfl ?_
  refine B3 rfl ?_
  refine A4 (A3 (A3 (A2 ?_)))
  refine A5 rfl ?_
  refine A4 ?_
  refine B9 (A0 rfl) ?_ ?_
  ·intro h26
   refine A2 ?_
   refine A1 rfl (F1 0 rfl (A0 rfl) rfl K5 F4 rfl) ?_
   refine D2 4 rfl rfl rfl (A0 rfl) (A0 rfl) (D6 _) rfl F4 rfl ?_
   refine A4 (A2 ?_)
   refine A5 rfl ?_
   refine A5 rfl ?_
   refine A1 rfl (K9 rfl X5 N2 Tryz.zeroValue4 rfl rfl rfl rfl (D0 (A0 rfl) (f6 _) G9) rfl rfl) ?_
   refine L2 (by' := 1) 5 rfl rfl rfl rfl X5 Tryz.type4 rfl rfl rfl rfl rfl rfl (A0 rfl) (A0 rfl) rfl (by simp only [A8, A7]; omega) ?_
   intro v31_1
   refine B3 rfl ?_
   refine A4 (A2 ?_)
   refine A1 rfl (G0 rfl (A0 rfl) B4 (by first | omega | (simp only [C8, A7, szR] at *; omega))) ?_
   refine A5 rfl ?_
   refine A4 ?_
   refine k6 i e u bs w (i + 1) (x23.1.1) (x23.2) (bs ++ [x23.1.2]) (v31_1) ?_ ?_ (Le.trans (F8 [0, 0, 1, 1, 0, 0] rfl) (K0 3 (by (rw [List.map_append]; rfl)) ⟨rfl, rfl, rfl, rfl, rfl, rfl, rfl, trivial⟩))
   ·first | exact ⟨by omega, ok23 (by simpa using h26), by rw [J6, hinv.2.2]; rfl⟩ | exact ⟨by omega, hinv.2.1, by rw [J6, hinv.2.2]; rfl⟩
   omega
  intro h26
  refine C3 (A2 ?_)
  refine A5 rfl ?_
  refine A5 rfl ?_
  refine A1 rfl (K9 rfl X5 N2 Tryz.zeroValue4 rfl rfl rfl rfl (D0 (A0 rfl) (f6 _) G9) rfl rfl) ?_
  refine L2 (by' := 1) 5 rfl rfl rfl rfl X5 Tryz.type4 rfl rfl rfl rfl rfl rfl (A0 rfl) (A0 rfl) rfl (by simp only [A8, A7]; omega) ?_
  intro v31_2
  refine B3 rfl ?_
  refine A4 (A2 ?_)
  refine A1 rfl (G0 rfl (A0 rfl) B4 (by first | omega | (simp only [C8, A7, szR] at *; omega))) ?_
  refine A5 rfl ?_
  refine A4 ?_
  refine k6 i e u bs w (i + 1) (e) (u) (bs ++ [x23.1.2]) (v31_2) ?_ ?_ (Le.trans (F8 [0, 1, 1, 1, 0, 0] rfl) (K0 3 (by (rw [List.map_append]; rfl)) ⟨rfl, rfl, rfl, rfl, rfl, rfl, rfl, trivial⟩))
  ·first | exact ⟨by omega, ok23 (by simpa using h26), by rw [J6, hinv.2.2]; rfl⟩ | exact ⟨by omega, hinv.2.1, by rw [J6, hinv.2.2]; rfl⟩
  omega
 intro h17
 have k17 := of_decide_eq_false h17; try simp only [A8] at k17
 refine G1 ?_
 refine A3 (A2 ?_)
 refine A1 rfl (F1 0 rfl (A0 rfl) rfl K5 F4 rfl) ?_
 refine A5 rfl ?_
 refine D2 3 rfl rfl rfl (A0 rfl) (A0 rfl) (D6 _) rfl F4 rfl ?_
 refine B3 rfl ?_
 refine A4 ?_
 refine C2 ?_
 exact L5 [1, 1] (((e, bs), u, w)) (hinv.2.1) rfl (by rfl) (V5 rfl (by decide) (E7 (J9 (ys := _) 3 rfl rfl K5 F4 rfl) (E7 (C1 rfl (by rfl)) M0)))
theorem Aj4 (b : Nat) (code : List Int) (hcode : ByteL code) (c : TCur) (d : TDeal) (v : DV d) (hp : c.p ≤ 900000) : GSpec Tryz.prog 107 [AV.ptr b 0, AV.agg d.cs] [.box b 64 (curC code c)] (fun x : TCur × TDealAct => x.1.p ≤ c.p + 10) (fun x => [.box b 64 (curC code x.1)]) (fun x => AV.agg x.2.cs) := by
 have hol := v.olen
 refine H3 Tryz.func107 rfl Tryz.ntmps107 rfl ?_
 refine A3 (A2 ?_)
 refine N1 rfl rfl rfl rfl (A0 rfl) ?_
 intro b3
 refine F5 rfl rfl rfl rfl Tryz.zeroValue146 rfl ?_
 intro b4
 refine A4 (A3 (A2 ?_))
 refine A5 rfl ?_
 refine A1 rfl (K9 rfl I4 B5 Tryz.zeroValue3 rfl rfl rfl rfl (D0 B4 (L8 _ _) (D0 B4 (L8 _ _) (D0 B4 (L8 _ _) (D0 B4 (L8 _ _) (D0 B4 (L8 _ _) (D0 B4 (L8 _ _) (D0 B4 (L8 _ _) (D0 B4 (L8 _ _) (D0 B4 (L8 _ _) (D0 B4 (L8 _ _) G9)))))))))) rfl rfl) ?_
 refine H9 [2] rfl rfl rfl rfl Tryz.call111 rfl (AF3 _ _ hcode _ ([(1), (1), (1), (1), (2), (2), (3), (4), (4), (4)] : List Int) (by decide) (by omega)) (A6 (A0 rfl) (A6 (A0 rfl) C0)) rfl ?_
 intro x10 ok10
 refine A5 rfl ?_
 refine H9 [0] rfl rfl rfl rfl Tryz.call34 rfl (R4 _ _ hcode _ _ (by omega) (by omega)) (A6 (A0 rfl) (A6 B4 C0)) rfl ?_
 intro x12 ok12
 refine A1 rfl (G0 rfl B4 (A0 rfl) (by first | omega | (simp only [C8, A7, szR] at *; omega))) ?_
 refine A1 rfl (N5 (places := #[(0, 1), (1, 1), (2, 1), (3, 1)]) rfl N3 Tryz.zeroValue146 (fun w => by kernel_rfl) rfl (D0 (A0 rfl) (L8 _ _) (D0 (A0 rfl) (L8 _ _) G9)) rfl) ?_
 refine F5 rfl rfl rfl rfl Tryz.zeroValue146 rfl ?_
 intro b5
 refine D2 0 rfl rfl rfl (A0 rfl) (A0 rfl) (D6 _) rfl S7 rfl ?_
 refine A4 (A3 (A2 ?_))
 refine A1 rfl (F1 3 rfl (A0 rfl) rfl K5 F4 rfl) ?_
 refine A1 rfl (B1 1 rfl N3 rfl B5 (A0 rfl) rfl) ?_
 refine A1 rfl (B0 0 rfl (A0 rfl) rfl C6 rfl) ?_
 refine A1 rfl (D7 rfl Tryz.call144 rfl (AZ7 d _ (by omega)) (A6 (A0 rfl) (A6 (A0 rfl) C0))) ?_
 refine B3 rfl ?_
 refine A4 (A3 (A3 (A2 ?_)))
 refine A5 rfl ?_
 refine A1 rfl (f5 rfl (A0 rfl) B4) ?_
 refine A5 rfl ?_
 refine D3 rfl (fun hc => B1 0 rfl N3 rfl B5 (A0 rfl) rfl) ?_
 refine D3 rfl (fun hc => B0 0 rfl (A9 rfl hc) rfl C6 rfl) ?_
 refine D3 rfl (fun hc => O1 rfl (A9 rfl hc) B4) ?_
 refine D3 rfl (fun hc => B8 rfl (A9 rfl hc)) ?_
 refine J7 rfl rfl (R6 rfl rfl rfl) (fun hc => B1 0 rfl N3 rfl B5 (A0 rfl) rfl) ?_
 refine J7 rfl rfl (R6 rfl rfl rfl) (fun hc => B0 0 rfl (A9 rfl hc) rfl C6 rfl) ?_
 refine J7 rfl rfl (R6 rfl rfl rfl) (fun hc => O1 rfl (A9 rfl hc) B4) ?_
 refine D3 rfl (fun hc => Q8 rfl (A9 rfl hc) (T1 rfl hc)) ?_
 refine A1 rfl (J5 rfl (A0 rfl) (F7 rfl)) ?_
 refine A4 ?_
 refine B9 (A0 rfl) ?_ ?_
 ·intro h30
  have hat : ¬ dealAt d.Orders (1 + x12.2) < 0 := by (simp only [Bool.and_eq_true, decide_eq_true_eq] at h30; omega)
  obtain ⟨x, hx⟩ := AZ8 hat
  have hxo := v.os x (F9 hx)
  obtain ⟨p0, hp0⟩ := Ag3 (cuts := d.Cuts) hxo.1
  have hpl : (partsL d.Cuts (keysO x)).length ≤ 1000 := (by have h9 := AP1 d.Cuts (keysO x); have h8 := AG7 (x.Reads ++ wKeys x.Writes); have h7 := hxo.2; have h6 := O4 (f := fun x : Str => x.length) (l := x.Reads); have h5 := O4 (f := TWrite.size) (l := x.Writes); have h4 : x.size = sizeL (fun x : Str => x.length) x.Reads + sizeL TWrite.size x.Writes := rfl; rw [J6, AP2] at h8; unfold keysO at h9 ⊢; omega)
  refine A3 ?_
  refine L1 (by kernel_rfl) (by kernel_rfl) rfl ?_
  refine B2 rfl rfl (B1 0 rfl E8 rfl H5 (A0 rfl) rfl) ?_
  refine B2 rfl rfl (B0 3 rfl (A0 rfl) rfl K7 rfl) ?_
  refine B2 rfl rfl (B1 2 rfl E8 rfl U4 (A0 rfl) rfl) ?_
  refine B2 rfl rfl (B0 3 rfl (A0 rfl) rfl V7 rfl) ?_
  refine B2 rfl rfl (B8 rfl (A0 rfl)) ?_
  refine B2 rfl rfl (I2 rfl I0 H4 (A0 rfl) (A0 rfl) hx (by omega)) ?_
  refine B2 rfl rfl (K6 rfl (A0 rfl) Q4 H4) ?_
  refine B2 rfl rfl (D7 rfl Tryz.call38 rfl (AP3 d.Cuts x (by omega)) (A6 (A0 rfl) (A6 (A0 rfl) C0))) ?_
  refine B2 rfl rfl (B6 rfl (A0 rfl)) ?_
  refine P7 ?_
  refine A2 ?_
  refine A5 rfl ?_
  refine A5 rfl ?_
  refine A5 rfl ?_
  refine A1 rfl (F6 rfl I4 (A0 rfl)) ?_
  refine H9 [1] rfl rfl rfl rfl Tryz.call34 rfl (R4 _ _ hcode _ _ (by simp only [A8]; omega) (by omega)) (A6 (A0 rfl) (A6 (A0 rfl) C0)) rfl ?_
  intro x43 ok43
  have hp0l := (List.getElem?_eq_some_iff.1 hp0).1
  obtain ⟨py, hpy⟩ := get_some (show x43.2.toNat < (partsL d.Cuts (keysO x)).length by (have h9 := ok43.2; simp only [A8] at h9; omega))
  refine A1 rfl (I2 rfl I4 B5 (A0 rfl) (A0 rfl) hpy (by omega)) ?_
  refine A1 rfl (L6 rfl (A0 rfl) C6 rfl) ?_
  refine A1 rfl (B1 2 rfl N3 rfl B5 (A0 rfl) rfl) ?_
  refine K8 1 rfl rfl rfl (A0 rfl) (A0 rfl) (L8 _ _) rfl B5 rfl ?_
  refine A4 (A3 (A3 (A2 ?_)))
  refine A1 rfl (B1 0 rfl N3 rfl B5 (A0 rfl) rfl) ?_
  refine A1 rfl (B0 1 rfl (A0 rfl) rfl C6 rfl) ?_
  refine A1 rfl (O1 rfl (A0 rfl) B4) ?_
  refine A4 ?_
  refine B9 (A0 rfl) ?_ ?_
  ·intro h49
   have k49 := M7 h49; try simp only [A8] at k49
   refine A2 ?_
   refine A5 rfl ?_
   refine H9 [0] rfl rfl rfl rfl Tryz.call34 rfl (R4 _ _ hcode _ _ (by omega) (by omega)) (A6 (A0 rfl) (A6 B4 C0)) rfl ?_
   intro x51 ok51
   refine A1 rfl (B1 3 rfl N3 rfl B5 (A0 rfl) rfl) ?_
   refine K8 1 rfl rfl rfl (A0 rfl) (A0 rfl) (L8 _ _) rfl B5 rfl ?_
   refine A4 (A3 (A2 ?_))
   refine A1 rfl (F1 1 rfl (A0 rfl) rfl Y2 S7 rfl) ?_
   refine D2 2 rfl rfl rfl (A0 rfl) (A0 rfl) (D6 _) rfl S7 rfl ?_
   refine A4 ?_
   refine C2 ?_
   (refine L5 [0] ((x51.1, ⟨x10.2, 1 + x12.2, py, x51.2⟩)) ?_ rfl (by first | (dsimp only; rfl) | rfl) (P0 rfl (J9 (ys := _) 2 rfl rfl Y2 S7 rfl)); (dsimp only; omega))
  intro h49
  have k49 := M6 h49; try simp only [A8] at k49
  refine C3 (A3 (A2 ?_))
  refine A1 rfl (F1 1 rfl (A0 rfl) rfl Y2 S7 rfl) ?_
  refine D2 2 rfl rfl rfl (A0 rfl) (A0 rfl) (D6 _) rfl S7 rfl ?_
  refine A4 ?_
  refine C2 ?_
  (refine L5 [0] ((x43.1, ⟨x10.2, 1 + x12.2, py, 0⟩)) ?_ rfl (by first | (dsimp only; rfl) | rfl) (P0 rfl (J9 (ys := _) 2 rfl rfl Y2 S7 rfl)); (dsimp only; omega))
 intro h30
 refine C3 (A3 (A3 (A2 ?_)))
 refine A1 rfl (B1 0 rfl N3 rfl B5 (A0 rfl) rfl) ?_
 refine A1 rfl (B0 0 rfl (A0 rfl) rfl C6 rfl) ?_
 refine A1 rfl (O1 rfl (A0 rfl) B4) ?_
 refine A4 ?_
 refine B9 (A0 rfl) ?_ ?_
 ·intro h49
  have k49 := M7 h49; try simp only [A8] at k49
  refine A2 ?_
  refine A5 rfl ?_
  refine H9 [1] rfl rfl rfl rfl Tryz.call34 rfl (R4 _ _ hcode _ _ (by omega) (by omega)) (A6 (A0 rfl) (A6 B4 C0)) rfl ?_
  intro x51 ok51
  refine A1 rfl (B1 3 rfl N3 rfl B5 (A0 rfl) rfl) ?_
  refine K8 1 rfl rfl rfl (A0 rfl) (A0 rfl) (L8 _ _) rfl B5 rfl ?_
  refine A4 (A3 (A2 ?_))
  refine A1 rfl (F1 1 rfl (A0 rfl) rfl Y2 S7 rfl) ?_
  refine D2 2 rfl rfl rfl (A0 rfl) (A0 rfl) (D6 _) rfl S7 rfl ?_
  refine A4 ?_
  refine C2 ?_
  (refine L5 [0] ((x51.1, ⟨x10.2, 1 + x12.2, 0, x51.2⟩)) ?_ rfl (by first | (dsimp only; rfl) | rfl) (P0 rfl (J9 (ys := _) 2 rfl rfl Y2 S7 rfl)); (dsimp only; omega))
 intro h49
 have k49 := M6 h49; try simp only [A8] at k49
 refine C3 (A3 (A2 ?_))
 refine A1 rfl (F1 0 rfl (A0 rfl) rfl Y2 S7 rfl) ?_
 refine D2 2 rfl rfl rfl (A0 rfl) (A0 rfl) (D6 _) rfl S7 rfl ?_
 refine A4 ?_
 refine C2 ?_
 (refine L5 [1] ((x12.1, ⟨x10.2, 1 + x12.2, 0, 0⟩)) ?_ rfl (by first | (dsimp only; rfl) | rfl) (P0 rfl (J9 (ys := _) 2 rfl rfl Y2 S7 rfl)); (dsimp only; omega))
end Go.Proofs.YtoaoicnnimjbeaaGreat
