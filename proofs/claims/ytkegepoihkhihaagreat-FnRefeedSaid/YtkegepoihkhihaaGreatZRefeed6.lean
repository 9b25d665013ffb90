/- Texts of the claim, part 6. -/
import Derived.RangeFuncNested
import Derived.RangeFuncBound
import Derived.RangeFuncCalls
import Derived.RangeFuncLeaves
import Derived.RangeFuncBox
import Derived.Shelf.Abstract
import Derived.Shelf.RegionOpen
import Derived.WalkKit
import Derived.OwnWalkIn
import Derived.TacticsInMore
import Derived.LoopNIn
import Derived.LoopIn
import Derived.ProofKit
import Derived.OpenShut
import Derived.ShutString
import Derived.ChangeOld
import Derived.Sort.Grow
import Derived.Lib.LaidTab
import Derived.Lib.ItoaNum
import Derived.Lib.Split
import Derived.Lib.SplitLaws
import Derived.Lib.ConvBytes
import Derived.WideLaws
import Derived.SizedLaws
import Derived.StillTailTactics
import Derived.Deep.QuietTactic
import Derived.Shelf.SlSortCmp.WholeK
import Derived.Shelf.SlSortCmp.NoneTotal
import Derived.Test.YtkegepoihkhihaaGreatProg
import Derived.Test.YtkegepoihkhihaaGreatZRefeed5

set_option linter.unusedVariables false
set_option linter.unusedSimpArgs false
set_option maxRecDepth 100000
set_option maxHeartbeats 2000000
namespace Go.Proofs.YtkegepoihkhihaaGreat
open Go Go.AV Go.M
attribute [local irreducible] OpW OpA OpS AWP FSpec ESpec GSpec OpE RetOk RetOkG RvDen Le Ev GuardIs SrcIs SrcE Int.tmod Int.tdiv IntKind.wrap bandI
theorem Ai2 (s : TState) (y : Value × Value) (hs : s.size ≤ 1048576) : GSpec Tryz.prog 199 [AV.agg (TState.ocs s y)] (TState.ow s y) (fun _ : Value × Value => True) (fun x => TState.ow s y ++ TState.ow s x) (fun x => AV.agg (TState.ocs s x)) := by
 obtain ⟨hs1, hs2, hs3, hs4, hs5⟩ := V8 hs
 refine J9 Tryz.func199 rfl Tryz.ntmps199 rfl ?_
 refine A3 (A2 ?_)
 refine N8 rfl rfl rfl rfl (A0 rfl) ?_
 intro b1
 refine F9 rfl rfl rfl rfl Tryz.zeroValue43 rfl ?_
 intro b2
 refine A4 (A3 ?_)
 refine X7 _ 11 (.pure 0 (.pure 1 (.pure 2 (.pure 3 (.pure 4 (.pure 6 (.pure 7 (.e2 5 (.e2 8 (.pure 9 (.e1 10 .nil)) 10 (.e1 8 (.pure 9 .nil))) 10 (.e1 5 (.e1 8 (.pure 9 .nil))))))))))) (by kernel_rfl) (by kernel_rfl) rfl o4 ?_
 refine H0 rfl rfl rfl (fun ext => B1 0 rfl C0 rfl B3 (A0 rfl) rfl) ?_
 refine H0 rfl rfl rfl (fun ext => B0 1 rfl (A0 rfl) rfl B9 rfl) ?_
 refine H0 rfl rfl rfl (fun ext => B1 1 rfl C0 rfl N9 (A0 rfl) rfl) ?_
 refine H0 rfl rfl rfl (fun ext => B0 1 rfl (A0 rfl) rfl Q1 rfl) ?_
 refine H0 rfl rfl rfl (fun ext => E4 rfl Tryz.call224 rfl (AQ8 s.Cells (by omega)) (A7 (A0 rfl) C6)) ?_
 refine H0 rfl rfl rfl (fun ext => B1 3 rfl C0 rfl N2 (A0 rfl) rfl) ?_
 refine H0 rfl rfl rfl (fun ext => B0 1 rfl (A0 rfl) rfl T7 rfl) ?_
 refine AO1 ?_ ?_
 ·refine V0 rfl rfl rfl (Y1 rfl I0 K8) (fun a _ => (by first | exact F2 rfl | exact F2 (List.append_assoc _ _ _) | exact I7)) ?_
  intro v11 _
  refine AO1 ?_ ?_
  ·refine V0 rfl rfl rfl (g9 4 (fun _ => rfl) (m6 (by' := 24) 4 rfl I0 Tryz.type144 rfl rfl rfl rfl rfl rfl (A0 rfl) (AT2 3 rfl (A0 rfl)) rfl (by simp only [L6, A8]; omega))) (fun a _ => (by first | exact F2 rfl | exact F2 (List.append_assoc _ _ _) | exact I7)) ?_
   intro v14_1 hone_v14_1
   have one_v14_1 := hone_v14_1.2
   refine H0 rfl rfl rfl (fun ext => O0 (places := #[(0, 1), (1, 1), (2, 1), (3, 1)]) rfl C0 Tryz.zeroValue43 (fun w => by kernel_rfl) rfl (D9 (A0 rfl) (K5 _ _) (D9 (A0 rfl) (U8 _ _) (D9 (A0 rfl) (V5 one_v14_1) H7))) rfl) ?_
   refine X8 ?_
   refine V0 rfl rfl rfl (o6 rfl Tryz.zeroValue43 rfl) (fun a _ => (by first | exact F2 rfl | exact F2 (List.append_assoc _ _ _) | exact I7)) ?_
   intro b3 _
   refine c5 ?_
   refine D6 5 rfl rfl rfl (A0 rfl) (A0 rfl) (E7 _) rfl C2 rfl ?_
   refine A4 (A3 (A3 (A2 ?_)))
   refine A1 rfl (B1 2 rfl C0 rfl G2 (A0 rfl) rfl) ?_
   refine A1 rfl (B0 1 rfl (A0 rfl) rfl L3 rfl) ?_
   refine A1 rfl (W1 2 rfl E1 (A0 rfl) rfl) ?_
   refine A1 rfl (C1 rfl B6) ?_
   refine A4 (C8 ?_)
   refine a6 141 5 ?_
   refine AWP.le (H4 [6, 0] rfl) ?_
   refine Q0 [(2, _), (3, _), (17, _), (18, _)] _ (fun (i : Nat) (v : Value) => i ≤ s.Held.length) (fun (i : Nat) (v : Value) => [.box b3 43 [AV.int s.Floor, AV.list 2 (s.Cells.map TCell.cs), AV.is v, AV.is v14_1], .arr v 141 5 ((s.Held.take i).map THeld.cs)]) (fun (i : Nat) (v : Value) => [(19, AV.int i)]) (fun (i : Nat) (v : Value) => s.Held.length - i) (0) ((Value.slice none 0 0)) ?_ (P8 (by rfl) ⟨rfl, rfl, rfl, rfl, rfl, trivial⟩) ?_
   ·exact Nat.zero_le _
   intro i v hinv
   refine A3 (A2 ?_)
   refine A1 rfl (J6 rfl (A0 rfl) (A0 rfl)) ?_
   refine A4 (A3 ?_)
   refine C4 (A0 rfl) ?_ ?_
   ·intro h20
    have k20 := of_decide_eq_true h20; try simp only [A8] at k20
    have hlt : i < s.Held.length := by omega
    obtain ⟨h, hx⟩ := get_some hlt
    obtain ⟨g1, g2, g3, g4, g5⟩ := W9 hs2 hx
    have hrow : (s.Held.map THeld.cs)[((i : Nat) : Int).toNat]? = some h.cs := by (rw [Int.toNat_natCast, List.getElem?_map, hx]; rfl)
    refine C7 (A3 (C8 (A3 (A2 ?_))))
    refine A1 rfl (W5 4 rfl E1 D4 (A0 rfl) rfl (A0 rfl) (by omega) (by first | omega | (simp only [A8]; omega))) ?_
    refine A1 rfl (d7 4 rfl (A0 rfl) rfl I6 D4 hrow (by decide)) ?_
    refine F9 rfl rfl rfl rfl Tryz.zeroValue141 rfl ?_
    intro b5
    refine D6 0 rfl rfl rfl (A0 rfl) (A0 rfl) (E7 _) rfl D4 rfl ?_
    refine A4 ?_
    refine X2 5 (by kernel_rfl) (by kernel_rfl) rfl ?_
    refine B2 rfl rfl (B1 2 rfl C0 rfl G2 (A0 rfl) rfl) ?_
    refine B2 rfl rfl (B0 1 rfl (A0 rfl) rfl L3 rfl) ?_
    refine B2 rfl rfl (F7 0 rfl (A0 rfl) rfl I6 D4 rfl) ?_
    refine B2 rfl rfl (E4 rfl Tryz.call225 rfl (d8 _ (by first | assumption | omega)) (A7 (A0 rfl) C6)) ?_
    refine B2 rfl rfl (L0 rfl E1 D4 Tryz.zeroValue141 rfl rfl rfl rfl (D9 (A0 rfl) (E7 _) H7) rfl rfl) ?_
    refine P1 ?_
    refine M0 (by' := 72) 2 rfl rfl rfl rfl E1 Tryz.type141 rfl rfl rfl rfl rfl rfl (A0 rfl) (A0 rfl) rfl (by simp only [A8, F0, A9]; omega) ?_
    intro v28_2
    refine A1 rfl (B1 2 rfl C0 rfl G2 (A0 rfl) rfl) ?_
    refine W4 2 rfl fun one_v28_2 => ?_
    refine K4 1 rfl rfl rfl (A0 rfl) (A0 rfl) (V5 one_v28_2) rfl G2 rfl ?_
    refine A4 (A2 ?_)
    refine A1 rfl (G8 rfl (A0 rfl) B6 (by first | omega | (simp only [D3, A9, szR] at *; omega))) ?_
    refine A5 rfl ?_
    refine A4 ?_
    refine O4 i v (i + 1) (v28_2) ?_ ?_ (Le.trans (H4 [0, 0, 0] rfl) (L7 1 (by exact congrArg (fun z => Own.box b3 43 [AV.int s.Floor, AV.list 2 (s.Cells.map TCell.cs), AV.is v28_2, AV.is v14_1] :: Own.arr v28_2 141 5 z :: _) (Y2 (f := THeld.cs) hx)) ⟨rfl, rfl, rfl, rfl, rfl, trivial⟩))
    ·omega
    omega
   intro h20
   have k20 := of_decide_eq_false h20; try simp only [A8] at k20
   have hge : i = s.Held.length := by omega
   rw [hge, List.take_length]
   refine G6 ?_
   refine A3 (A2 ?_)
   refine A1 rfl (F7 0 rfl (A0 rfl) rfl E2 C2 rfl) ?_
   refine D6 2 rfl rfl rfl (A0 rfl) (A0 rfl) (E7 _) rfl C2 rfl ?_
   refine A4 ?_
   refine C5 ?_
   exact N5 [4, 4, 1, 3] (v, v14_1) (trivial) rfl (by rfl) (S1 rfl (L1 (ys := _) 2 rfl rfl E2 C2 rfl))
  refine V0 rfl rfl rfl (o6 rfl Tryz.zeroValue43 rfl) (fun a _ => (by first | exact F2 rfl | exact F2 (List.append_assoc _ _ _) | exact I7)) ?_
  intro b3 _
  refine X8 ?_
  refine V0 rfl rfl rfl (g9 4 (fun _ => rfl) (m6 (by' := 24) 4 rfl I0 Tryz.type144 rfl rfl rfl rfl rfl rfl (A0 rfl) (AT2 3 rfl (A0 rfl)) rfl (by simp only [L6, A8]; omega))) (fun a _ => (by first | exact F2 rfl | exact F2 (List.append_assoc _ _ _) | exact I7)) ?_
  intro v14_3 hone_v14_3
  have one_v14_3 := hone_v14_3.2
  refine H0 rfl rfl rfl (fun ext => O0 (places := #[(0, 1), (1, 1), (2, 1), (3, 1)]) rfl C0 Tryz.zeroValue43 (fun w => by kernel_rfl) rfl (D9 (A0 rfl) (K5 _ _) (D9 (A0 rfl) (U8 _ _) (D9 (A0 rfl) (V5 one_v14_3) H7))) rfl) ?_
  refine c5 ?_
  refine D6 5 rfl rfl rfl (A0 rfl) (A0 rfl) (E7 _) rfl C2 rfl ?_
  refine A4 (A3 (A3 (A2 ?_)))
  refine A1 rfl (B1 2 rfl C0 rfl G2 (A0 rfl) rfl) ?_
  refine A1 rfl (B0 1 rfl (A0 rfl) rfl L3 rfl) ?_
  refine A1 rfl (W1 2 rfl E1 (A0 rfl) rfl) ?_
  refine A1 rfl (C1 rfl B6) ?_
  refine A4 (C8 ?_)
  refine a6 141 5 ?_
  refine AWP.le (H4 [6, 0] rfl) ?_
  refine Q0 [(2, _), (3, _), (17, _), (18, _)] _ (fun (i : Nat) (v : Value) => i ≤ s.Held.length) (fun (i : Nat) (v : Value) => [.box b3 43 [AV.int s.Floor, AV.list 2 (s.Cells.map TCell.cs), AV.is v, AV.is v14_3], .arr v 141 5 ((s.Held.take i).map THeld.cs)]) (fun (i : Nat) (v : Value) => [(19, AV.int i)]) (fun (i : Nat) (v : Value) => s.Held.length - i) (0) ((Value.slice none 0 0)) ?_ (P8 (by rfl) ⟨rfl, rfl, rfl, rfl, rfl, trivial⟩) ?_
  ·exact Nat.zero_le _
  intro i v hinv
  refine A3 (A2 ?_)
  refine A1 rfl (J6 rfl (A0 rfl) (A0 rfl)) ?_
  refine A4 (A3 ?_)
  refine C4 (A0 rfl) ?_ ?_
  ·intro h20
   have k20 := of_decide_eq_true h20; try simp only [A8] at k20
   have hlt : i < s.Held.length := by omega
   obtain ⟨h, hx⟩ := get_some hlt
   obtain ⟨g1, g2, g3, g4, g5⟩ := W9 hs2 hx
   have hrow : (s.Held.map THeld.cs)[((i : Nat) : Int).toNat]? = some h.cs := by (rw [Int.toNat_natCast, List.getElem?_map, hx]; rfl)
   refine C7 (A3 (C8 (A3 (A2 ?_))))
   refine A1 rfl (W5 4 rfl E1 D4 (A0 rfl) rfl (A0 rfl) (by omega) (by first | omega | (simp only [A8]; omega))) ?_
   refine A1 rfl (d7 4 rfl (A0 rfl) rfl I6 D4 hrow (by decide)) ?_
   refine F9 rfl rfl rfl rfl Tryz.zeroValue141 rfl ?_
   intro b5
   refine D6 0 rfl rfl rfl (A0 rfl) (A0 rfl) (E7 _) rfl D4 rfl ?_
   refine A4 ?_
   refine X2 5 (by kernel_rfl) (by kernel_rfl) rfl ?_
   refine B2 rfl rfl (B1 2 rfl C0 rfl G2 (A0 rfl) rfl) ?_
   refine B2 rfl rfl (B0 1 rfl (A0 rfl) rfl L3 rfl) ?_
   refine B2 rfl rfl (F7 0 rfl (A0 rfl) rfl I6 D4 rfl) ?_
   refine B2 rfl rfl (E4 rfl Tryz.call225 rfl (d8 _ (by first | assumption | omega)) (A7 (A0 rfl) C6)) ?_
   refine B2 rfl rfl (L0 rfl E1 D4 Tryz.zeroValue141 rfl rfl rfl rfl (D9 (A0 rfl) (E7 _) H7) rfl rfl) ?_
   refine P1 ?_
   refine M0 (by' := 72) 2 rfl rfl rfl rfl E1 Tryz.type141 rfl rfl rfl rfl rfl rfl (A0 rfl) (A0 rfl) rfl (by simp only [A8, F0, A9]; omega) ?_
   intro v28_4
   refine A1 rfl (B1 2 rfl C0 rfl G2 (A0 rfl) rfl) ?_
   refine W4 2 rfl fun one_v28_4 => ?_
   refine K4 1 rfl rfl rfl (A0 rfl) (A0 rfl) (V5 one_v28_4) rfl G2 rfl ?_
   refine A4 (A2 ?_)
   refine A1 rfl (G8 rfl (A0 rfl) B6 (by first | omega | (simp only [D3, A9, szR] at *; omega))) ?_
   refine A5 rfl ?_
   refine A4 ?_
   refine O4 i v (i + 1) (v28_4) ?_ ?_ (Le.trans (H4 [0, 0, 0] rfl) (L7 1 (by exact congrArg (fun z => Own.box b3 43 [AV.int s.Floor, AV.list 2 (s.Cells.map TCell.cs), AV.is v28_4, AV.is v14_3] :: Own.arr v28_4 141 5 z :: _) (Y2 (f := THeld.cs) hx)) ⟨rfl, rfl, rfl, rfl, rfl, trivial⟩))
   ·omega
   omega
  intro h20
  have k20 := of_decide_eq_false h20; try simp only [A8] at k20
  have hge : i = s.Held.length := by omega
  rw [hge, List.take_length]
  refine G6 ?_
  refine A3 (A2 ?_)
  refine A1 rfl (F7 0 rfl (A0 rfl) rfl E2 C2 rfl) ?_
  refine D6 2 rfl rfl rfl (A0 rfl) (A0 rfl) (E7 _) rfl C2 rfl ?_
  refine A4 ?_
  refine C5 ?_
  exact N5 [4, 4, 1, 3] (v, v14_3) (trivial) rfl (by rfl) (S1 rfl (L1 (ys := _) 2 rfl rfl E2 C2 rfl))
 refine V0 rfl rfl rfl (o6 rfl Tryz.zeroValue43 rfl) (fun a _ => (by first | exact F2 rfl | exact F2 (List.append_assoc _ _ _) | exact I7)) ?_
 intro b3 _
 refine X8 ?_
 refine V0 rfl rfl rfl (Y1 rfl I0 K8) (fun a _ => (by first | exact F2 rfl | exact F2 (List.append_assoc _ _ _) | exact I7)) ?_
 intro v11 _
 refine X8 ?_
 refine V0 rfl rfl rfl (g9 5 (fun _ => rfl) (m6 (by' := 24) 5 rfl I0 Tryz.type144 rfl rfl rfl rfl rfl rfl (A0 rfl) (AT2 3 rfl (A0 rfl)) rfl (by simp only [L6, A8]; omega))) (fun a _ => (by first | exact F2 rfl | exact F2 (List.append_assoc _ _ _) | exact I7)) ?_
 intro v14_5 hone_v14_5
 have one_v14_5 := hone_v14_5.2
 refine H0 rfl rfl rfl (fun ext => O0 (places := #[(0, 1), (1, 1), (2, 1), (3, 1)]) rfl C0 Tryz.zeroValue43 (fun w => by kernel_rfl) rfl (D9 (A0 rfl) (K5 _ _) (D9 (A0 rfl) (U8 _ _) (D9 (A0 rfl) (V5 one_v14_5) H7))) rfl) ?_
 refine c5 ?_
 refine D6 4 rfl rfl rfl (A0 rfl) (A0 rfl) (E7 _) rfl C2 rfl ?_
 refine A4 (A3 (A3 (A2 ?_)))
 refine A1 rfl (B1 2 rfl C0 rfl G2 (A0 rfl) rfl) ?_
 refine A1 rfl (B0 1 rfl (A0 rfl) rfl L3 rfl) ?_
 refine A1 rfl (W1 2 rfl E1 (A0 rfl) rfl) ?_
 refine A1 rfl (C1 rfl B6) ?_
 refine A4 (C8 ?_)
 refine a6 141 5 ?_
 refine AWP.le (H4 [5, 0] rfl) ?_
 refine Q0 [(2, _), (3, _), (17, _), (18, _)] _ (fun (i : Nat) (v : Value) => i ≤ s.Held.length) (fun (i : Nat) (v : Value) => [.box b3 43 [AV.int s.Floor, AV.list 2 (s.Cells.map TCell.cs), AV.is v, AV.is v14_5], .arr v 141 5 ((s.Held.take i).map THeld.cs)]) (fun (i : Nat) (v : Value) => [(19, AV.int i)]) (fun (i : Nat) (v : Value) => s.Held.length - i) (0) ((Value.slice none 0 0)) ?_ (P8 (by rfl) ⟨rfl, rfl, rfl, rfl, rfl, trivial⟩) ?_
 ·exact Nat.zero_le _
 intro i v hinv
 refine A3 (A2 ?_)
 refine A1 rfl (J6 rfl (A0 rfl) (A0 rfl)) ?_
 refine A4 (A3 ?_)
 refine C4 (A0 rfl) ?_ ?_
 ·intro h20
  have k20 := of_decide_eq_true h20; try simp only [A8] at k20
  have hlt : i < s.Held.length := by omega
  obtain ⟨h, hx⟩ := get_some hlt
  obtain ⟨g1, g2, g3, g4, g5⟩ := W9 hs2 hx
  have hrow : (s.Held.map THeld.cs)[((i : Nat) : Int).toNat]? = some h.cs := by (rw [Int.toNat_natCast, List.getElem?_map, hx]; rfl)
  refine C7 (A3 (C8 (A3 (A2 ?_))))
  refine A1 rfl (W5 4 rfl E1 D4 (A0 rfl) rfl (A0 rfl) (by omega) (by first | omega | (simp only [A8]; omega))) ?_
  refine A1 rfl (d7 4 rfl (A0 rfl) rfl I6 D4 hrow (by decide)) ?_
  refine F9 rfl rfl rfl rfl Tryz.zeroValue141 rfl ?_
  intro b5
  refine D6 0 rfl rfl rfl (A0 rfl) (A0 rfl) (E7 _) rfl D4 rfl ?_
  refine A4 ?_
  refine X2 5 (by kernel_rfl) (by kernel_rfl) rfl ?_
  refine B2 rfl rfl (B1 2 rfl C0 rfl G2 (A0 rfl) rfl) ?_
  refine B2 rfl rfl (B0 1 rfl (A0 rfl) rfl L3 rfl) ?_
  refine B2 rfl rfl (F7 0 rfl (A0 rfl) rfl I6 D4 rfl) ?_
  refine B2 rfl rfl (E4 rfl Tryz.call225 rfl (d8 _ (by first | assumption | omega)) (A7 (A0 rfl) C6)) ?_
  refine B2 rfl rfl (L0 rfl E1 D4 Tryz.zeroValue141 rfl rfl rfl rfl (D9 (A0 rfl) (E7 _) H7) rfl rfl) ?_
  refine P1 ?_
  refine M0 (by' := 72) 2 rfl rfl rfl rfl E1 Tryz.type141 rfl rfl rfl rfl rfl rfl (A0 rfl) (A0 rfl) rfl (by simp only [A8, F0, A9]; omega) ?_
  intro v28_6
  refine A1 rfl (B1 2 rfl C0 rfl G2 (A0 rfl) rfl) ?_
  refine W4 2 rfl fun one_v28_6 => ?_
  refine K4 1 rfl rfl rfl (A0 rfl) (A0 rfl) (V5 one_v28_6) rfl G2 rfl ?_
  refine A4 (A2 ?_)
  refine A1 rfl (G8 rfl (A0 rfl) B6 (by first | omega | (simp only [D3, A9, szR] at *; omega))) ?_
  refine A5 rfl ?_
  refine A4 ?_
  refine O4 i v (i + 1) (v28_6) ?_ ?_ (Le.trans (H4 [0, 0, 0] rfl) (L7 1 (by exact congrArg (fun z => Own.box b3 43 [AV.int s.Floor, AV.list 2 (s.Cells.map TCell.cs), AV.is v28_6, AV.is v14_5] :: Own.arr v28_6 141 5 z :: _) (Y2 (f := THeld.cs) hx)) ⟨rfl, rfl, rfl, rfl, rfl, trivial⟩))
  ·omega
  omega
 intro h20
 have k20 := of_decide_eq_false h20; try simp only [A8] at k20
 have hge : i = s.Held.length := by omega
 rw [hge, List.take_length]
 refine G6 ?_
 refine A3 (A2 ?_)
 refine A1 rfl (F7 0 rfl (A0 rfl) rfl E2 C2 rfl) ?_
 refine D6 2 rfl rfl rfl (A0 rfl) (A0 rfl) (E7 _) rfl C2 rfl ?_
 refine A4 ?_
 refine C5 ?_
 exact N5 [4, 4, 1, 3] (v, v14_5) (trivial) rfl (by rfl) (S1 rfl (L1 (ys := _) 2 rfl rfl E2 C2 rfl))
theorem Aq7 (s : TState) (y : Value × Value) (n : Int) (hlen : s.Held.length ≤ 1048576) : GSpec Tryz.prog 128 [AV.agg (TState.ocs s y), AV.int n] (TState.ow s y) (fun _ : Unit => True) (fun _ => TState.ow s y) (fun _ => AV.tup [AV.agg (heldFO s.Held n).1.cs, AV.bool (heldFO s.Held n).2]) := by
 obtain ⟨he, hhe⟩ : ∃ he, heldFO s.Held n = he := ⟨_, rfl⟩
 rw [hhe]
 refine J9 Tryz.func128 rfl Tryz.ntmps128 rfl ?_
 refine A3 (A2 ?_)
 refine N8 rfl rfl rfl rfl (A0 rfl) ?_
 intro b2
 refine F9 rfl rfl rfl rfl Tryz.zeroValue141 rfl ?_
 intro b4
 refine A1 rfl (B7 rfl F5) ?_
 refine A4 (A3 (A3 (A2 ?_)))
 refine A1 rfl (B1 2 rfl C0 rfl G2 (A0 rfl) rfl) ?_
 refine A1 rfl (B0 1 rfl (A0 rfl) rfl L3 rfl) ?_
 refine A1 rfl (W1 2 rfl E1 (A0 rfl) rfl) ?_
 refine A1 rfl (C1 rfl B6) ?_
 refine A4 (C8 ?_)
 refine J1 [(1, _), (4, _), (9, _), (10, _)] _ (fun (i : Nat) => i ≤ s.Held.length ∧ ∀ j y, j < i → s.Held[j]? = some y → (y.Txn == n) = false) (fun (i : Nat) => []) (fun (i : Nat) => [(11, AV.int i)]) (fun (i : Nat) => s.Held.length - i) (0) ?_ (K0 ⟨rfl, rfl, rfl, rfl, rfl, trivial⟩) ?_
 ·exact ⟨Nat.zero_le _, fun j y hj => by omega⟩
 intro i hinv
 refine A3 (A2 ?_)
 refine A1 rfl (J6 rfl (A0 rfl) (A0 rfl)) ?_
 refine A4 (A3 ?_)
 refine C4 (A0 rfl) ?_ ?_
 ·intro h12
  have k12 := of_decide_eq_true h12; try simp only [A8] at k12
  have hlt : i < s.Held.length := by omega
  obtain ⟨x, hx⟩ := get_some hlt
  have hrow : (s.Held.map THeld.cs)[((i : Nat) : Int).toNat]? = some x.cs := by (rw [Int.toNat_natCast, List.getElem?_map, hx]; rfl)
  refine C7 (A3 (C8 (A3 (A2 ?_))))
  refine A1 rfl (W5 2 rfl E1 D4 (A0 rfl) rfl (A0 rfl) (by omega) (by first | omega | (simp only [A8]; omega))) ?_
  refine A1 rfl (d7 2 rfl (A0 rfl) rfl I6 D4 hrow (by decide)) ?_
  refine F9 rfl rfl rfl rfl Tryz.zeroValue141 rfl ?_
  intro b7
  refine D6 0 rfl rfl rfl (A0 rfl) (A0 rfl) (E7 _) rfl D4 rfl ?_
  refine A4 (A3 (A2 ?_))
  refine A1 rfl (B1 0 rfl F1 rfl B3 (A0 rfl) rfl) ?_
  refine A1 rfl (B0 0 rfl (A0 rfl) rfl B9 rfl) ?_
  refine A5 rfl ?_
  refine A1 rfl (P4 rfl (A0 rfl) (A0 rfl)) ?_
  refine A4 ?_
  refine C4 (A0 rfl) ?_ ?_
  ·intro h18
   have k18 := O9 h18; try simp only [A8] at k18
   have he9 : he = (x, true) := by (rw [← hhe]; unfold heldFO findH; rw [AA2 hx h18 hinv.2])
   rw [he9]
   refine A3 (A2 ?_)
   refine A1 rfl (F7 0 rfl (A0 rfl) rfl I6 D4 rfl) ?_
   refine D6 1 rfl rfl rfl (A0 rfl) (A0 rfl) (E7 _) rfl D4 rfl ?_
   refine A1 rfl (B7 rfl F5) ?_
   refine A4 ?_
   refine C5 ?_
   exact N5 [3, 3] () (trivial) rfl (by rfl) (W6 rfl (by decide) (F4 (L1 (ys := _) 1 rfl rfl I6 D4 rfl) (F4 (C3 rfl (by rfl)) M5)))
  intro h18
  have k18 := O8 h18; try simp only [A8] at k18
  refine C7 (A2 ?_)
  refine A1 rfl (G8 rfl (A0 rfl) B6 (by first | omega | (simp only [D3, A9, szR] at *; omega))) ?_
  refine A5 rfl ?_
  refine A4 ?_
  refine L4 i (i + 1) ?_ ?_ (U3 1 ⟨rfl, rfl, rfl, rfl, rfl, trivial⟩)
  ·exact ⟨by omega, fun j y hj hy => if hji : j < i then hinv.2 j y hji hy else (by have e : j = i := (by omega); subst e; rw [hx] at hy; injection hy with hy; subst hy; exact h18)⟩
  omega
 intro h12
 have k12 := of_decide_eq_false h12; try simp only [A8] at k12
 have hge : s.Held.length ≤ i := by omega
 have he9 : he = (zHeld, false) := by (rw [← hhe]; unfold heldFO findH; rw [AT3 fun j y hy => hinv.2 j y (Nat.lt_of_lt_of_le (List.getElem?_eq_some_iff.1 hy).1 hge) hy])
 rw [he9]
 refine G6 ?_
 refine A3 (A2 ?_)
 refine A1 rfl (O0 (places := #[(0, 1), (1, 1), (2, 1), (3, 1), (4, 1)]) rfl F1 Tryz.zeroValue141 (fun w => by kernel_rfl) rfl H7 rfl) ?_
 refine D6 0 rfl rfl rfl (A0 rfl) (A0 rfl) (E7 _) rfl D4 rfl ?_
 refine A1 rfl (B7 rfl F5) ?_
 refine A4 ?_
 refine C5 ?_
 refine Z3 0 3 1 rfl rfl (T9 2 rfl rfl (T9 3 rfl rfl R5)) ?_
 refine Z3 0 4 3 rfl rfl (T9 2 rfl rfl (T9 3 rfl rfl R5)) ?_
 exact N5 [2, 2] () (trivial) rfl (by rfl) (W6 rfl (by decide) (F4 (L1 (ys := _) 0 rfl rfl I6 D4 rfl) (F4 (C3 rfl (by rfl)) M5)))
theorem Ax3 (s : TState) (y : Value × Value) (r : TRec) (g : SO s) (hs : s.size ≤ 300000) (hrs : r.size ≤ 300000) : GSpec Tryz.prog 164 [AV.agg (TState.ocs s y), AV.agg r.cs] (TState.ow s y) (fun _ : Value × Value => True) (fun x => TState.ow s y ++ TState.ow (applyS s r).1 x) (fun x => AV.tup [AV.agg (TState.ocs (applyS s r).1 x), AV.bool (applyS s r).2]) := by
 obtain ⟨hs1, hs2, hs3, hs4, hs5⟩ := V8 hs
 have hgc := g.cells
 have hgh := g.hsort
 have hgt := g.tsort
 have hr2 : r.size = sizeL (fun x : Str => x.length) r.Reads + sizeL TWrite.size r.Writes := rfl
 have hr3 := O3 (f := fun x : Str => x.length) (l := r.Reads)
 have hr4 := O3 (f := TWrite.size) (l := r.Writes)
 have hho := AD5 s.Held r.Txn
 have hto := Af0 s.Told r.Txn
 obtain ⟨h, hh⟩ : ∃ h, (heldFO s.Held r.Txn).1 = h := ⟨_, rfl⟩
 have hf1 : hasH s.Held r.Txn = true → findH s.Held r.Txn = some h := fun e => by
  rw [← hho] at e
  unfold heldFO at hh e
  cases hf : findH s.Held r.Txn with
  | none => rw [hf] at e; cases e
  | some x => rw [hf] at hh; exact congrArg some hh
 have hf0 : hasH s.Held r.Txn = false → findH s.Held r.Txn = none := fun e => AH6.2 e
 have hhs : hasH s.Held r.Txn = true → h.size ≤ 300000 ∧ 1 ≤ h.Time := fun e => by
  obtain ⟨h1, h2⟩ := AH5 (hf1 e)
  obtain ⟨i, hi⟩ := List.getElem?_of_mem h1
  exact ⟨(W9 hs2 hi).1, g.times h h1⟩
 have hlen := AE9 s.Held r.Txn
 have hll : (lessH s.Held r.Txn).length ≤ s.Held.length := List.length_filter_le _ _
 refine J9 Tryz.func164 rfl Tryz.ntmps164 rfl ?_
 refine A3 (A2 ?_)
 refine N8 rfl rfl rfl rfl (A0 rfl) ?_
 intro b2
 refine N8 rfl rfl rfl rfl (A0 rfl) ?_
 intro b3
 refine F9 rfl rfl rfl rfl Tryz.zeroValue43 rfl ?_
 intro b4
 refine A1 rfl (B7 rfl F5) ?_
 refine A4 (A3 (A2 ?_))
 refine A1 rfl (F7 2 rfl (A0 rfl) rfl E2 C2 rfl) ?_
 refine J7 [3, 3] rfl rfl rfl rfl Tryz.call199 rfl (Ai2 s y (by omega)) (A7 (A0 rfl) C6) rfl ?_
 intro x14 ok14
 refine F9 rfl rfl rfl rfl Tryz.zeroValue43 rfl ?_
 intro b6
 refine D6 0 rfl rfl rfl (A0 rfl) (A0 rfl) (E7 _) rfl C2 rfl ?_
 refine A4 (A3 ?_)
 refine O1 (by first | (simp only [TState.ow, TState.ocs, pick, S9, S6, S2, R9, S3, List.nil_append, T0, S7, List.append_nil, R6, List.take_zero, S0, List.drop_zero]; exact rfl) | exact rfl) ?_
 refine A2 ?_
 refine A1 rfl (F7 7 rfl (A0 rfl) rfl E2 C2 rfl) ?_
 refine A1 rfl (B1 1 rfl B4 rfl B3 (A0 rfl) rfl) ?_
 refine A1 rfl (B0 6 rfl (A0 rfl) rfl B9 rfl) ?_
 refine J7 [1, 1] rfl rfl rfl rfl Tryz.call128 rfl (Aq7 s y r.Txn (by omega)) (A7 (A0 rfl) (A7 (A0 rfl) C6)) rfl ?_
 intro x19 ok19
 refine A5 rfl ?_
 refine A1 rfl (H8 rfl (A0 rfl) rfl) ?_
 refine A1 rfl (H8 rfl (A0 rfl) rfl) ?_
 refine F9 rfl rfl rfl rfl Tryz.zeroValue141 rfl ?_
 intro b7
 refine D6 0 rfl rfl rfl (A0 rfl) (A0 rfl) (E7 _) rfl D4 rfl ?_
 refine B5 rfl ?_
 refine A4 (A3 ?_)
 refine O1 (by first | (simp only [TState.ow, TState.ocs, pick, S9, S6, S2, R9, S3, List.nil_append, T0, S7, List.append_nil, R6, List.take_zero, S0, List.drop_zero]; exact rfl) | exact rfl) ?_
 refine A2 ?_
 refine A1 rfl (F7 8 rfl (A0 rfl) rfl E2 C2 rfl) ?_
 refine A1 rfl (B1 1 rfl B4 rfl B3 (A0 rfl) rfl) ?_
 refine A1 rfl (B0 7 rfl (A0 rfl) rfl B9 rfl) ?_
 refine A1 rfl (g8 rfl Tryz.call200 rfl (AM8 s r.Txn (by omega)) (Y7 (B8 (S5 (B8 (D5 _ _) (B8 (D0 _) (B8 (D5 _ _) D1)))) (B8 (D0 _) D1))) (Q4 (AK5 (A0 rfl) (j6 (H2 M4 (H2 M4 (H2 (N1 (G4 (i := 1) rfl) J4) (H2 (N1 (G4 (i := 2) rfl) J4) V4)))))) (Q4 (evb (A0 rfl)) X3))) ?_
 refine A5 rfl ?_
 refine A1 rfl (H8 rfl (A0 rfl) rfl) ?_
 refine A1 rfl (H8 rfl (A0 rfl) rfl) ?_
 refine F9 rfl rfl rfl rfl Tryz.zeroValue144 rfl ?_
 intro b9
 refine D6 0 rfl rfl rfl (A0 rfl) (A0 rfl) (E7 _) rfl K8 rfl ?_
 refine B5 rfl ?_
 refine A4 (A3 (C8 (A3 ?_)))
 rw [hh]
 rw [hho, hto]
 refine O1 (by first | (simp only [TState.ow, TState.ocs, pick, S9, S6, S2, R9, S3, List.nil_append, T0, S7, List.append_nil, R6, List.take_zero, S0, List.drop_zero]; exact rfl) | exact rfl) ?_
 refine A2 ?_
 refine A1 rfl (B1 0 rfl B4 rfl B3 (A0 rfl) rfl) ?_
 refine A1 rfl (B0 8 rfl (A0 rfl) rfl B9 rfl) ?_
 refine A1 rfl (P4 rfl (A0 rfl) B6) ?_
 refine B5 rfl ?_
 refine A4 ?_
 refine C4 (A0 rfl) ?_ ?_
 ·intro h29
  have k29 := O9 h29; try simp only [A8] at k29
  have hk : r.Kind = 4 := by simpa using h29
  have he : applyS s r = (⟨r.Time, s.Cells, s.Held, s.Told⟩, decide (s.Floor < r.Time)) := by (unfold applyS; rw [if_pos hk])
  rw [he]
  refine A3 ?_
  refine O1 (by first | (simp only [TState.ow, TState.ocs, pick, S9, S6, S2, R9, S3, List.nil_append, T0, S7, List.append_nil, R6, List.take_zero, S0, List.drop_zero]; exact rfl) | exact rfl) ?_
  refine A2 ?_
  refine A1 rfl (B1 2 rfl B4 rfl B3 (A0 rfl) rfl) ?_
  refine A1 rfl (B0 8 rfl (A0 rfl) rfl B9 rfl) ?_
  refine A1 rfl (B1 0 rfl C0 rfl B3 (A0 rfl) rfl) ?_
  refine K4 4 rfl rfl rfl (A0 rfl) (A0 rfl) (K5 _ _) rfl B3 rfl ?_
  refine A4 (A3 ?_)
  refine O1 (by first | (simp only [TState.ow, TState.ocs, pick, S9, S6, S2, R9, S3, List.nil_append, T0, S7, List.append_nil, R6, List.take_zero, S0, List.drop_zero]; exact rfl) | exact rfl) ?_
  refine AWP.le (H4 [4, 7, 7] rfl) ?_
  refine X7 _ 7 (.pure 0 (.pure 1 (.pure 2 (.pure 3 (.pure 4 (.pure 5 (.e1 6 .nil))))))) (by kernel_rfl) (by kernel_rfl) rfl (W8 3) ?_
  refine H0 rfl rfl rfl (fun ext => F7 0 rfl (A0 rfl) rfl E2 C2 rfl) ?_
  refine H0 rfl rfl rfl (fun ext => B1 2 rfl B4 rfl B3 (A0 rfl) rfl) ?_
  refine H0 rfl rfl rfl (fun ext => B0 1 rfl (A0 rfl) rfl B9 rfl) ?_
  refine H0 rfl rfl rfl (fun ext => B1 0 rfl C0 rfl B3 (A0 rfl) rfl) ?_
  refine H0 rfl rfl rfl (fun ext => B0 2 rfl (A0 rfl) rfl B9 rfl) ?_
  refine H0 rfl rfl rfl (fun ext => O5 rfl (A0 rfl) (A0 rfl)) ?_
  refine X8 ?_
  refine AV5 rfl rfl rfl (t8 9 rfl rfl (A0 rfl) (A0 rfl) (E7 _) rfl C2 rfl) (fun a _ => (by first | exact F2 rfl | exact F2 (List.append_assoc _ _ _) | exact I7)) ?_
  intro _ _
  refine c5 ?_
  refine B5 rfl ?_
  refine A4 ?_
  refine C5 ?_
  exact N5 [5, 5, 5, 5] (x14.1, x14.2) (trivial) rfl (by rfl) (W6 rfl (by decide) (F4 (L1 (ys := _) 9 rfl rfl E2 C2 rfl) (F4 (C3 rfl (by rfl)) M5)))
 intro h29
 have k29 := O8 h29; try simp only [A8] at k29
 have hk4 : r.Kind ≠ 4 := by simpa using h29
 refine A3 (A2 ?_)
 refine A5 rfl ?_
 refine B5 rfl ?_
 refine A4 ?_
 refine C4 (A0 rfl) ?_ ?_
 ·intro h42
  have he : applyS s r = (s, false) := by (unfold applyS; rw [if_neg hk4, if_pos h42])
  rw [he]
  refine A3 (A2 ?_)
  refine A1 rfl (F7 4 rfl (A0 rfl) rfl E2 C2 rfl) ?_
  refine D6 7 rfl rfl rfl (A0 rfl) (A0 rfl) (E7 _) rfl C2 rfl ?_
  refine A1 rfl (B7 rfl F5) ?_
  refine A4 ?_
  refine C5 ?_
  exact N5 [2, 2, 3, 3] (x14.1, x14.2) (trivial) rfl (by rfl) (W6 rfl (by decide) (F4 (L1 (ys := _) 7 rfl rfl E2 C2 rfl) (F4 (C3 rfl (by rfl)) M5)))
 intro h42
 have hT : hasT s.Told r.Txn = false := h42
 have hnT : ¬ hasT s.Told r.Txn = true := by (rw [hT]; decide)
 refine A3 (A2 ?_)
 refine A1 rfl (B1 0 rfl B4 rfl B3 (A0 rfl) rfl) ?_
 refine A1 rfl (B0 8 rfl (A0 rfl) rfl B9 rfl) ?_
 refine A1 rfl (P4 rfl (A0 rfl) B6) ?_
 refine B5 rfl ?_
 refine A4 ?_
 refine C4 (A0 rfl) ?_ ?_
 ·intro h45
  have k45 := O9 h45; try simp only [A8] at k45
  have hk1 : r.Kind = 1 := by simpa using h45
  have he : applyS s r = (⟨r.Time, s.Cells, insH (hOf r) s.Held, s.Told⟩, (!hasH s.Held r.Txn && decide (s.Floor < r.Time)) && fits s r.Reads r.Writes) := by (unfold applyS; rw [if_neg hk4, if_neg hnT, if_pos hk1])
  rw [he]
  refine A3 ?_
  refine AWP.le (s4 [5] 4 (.box b6 43 [AV.int s.Floor, AV.list 2 (s.Cells.map TCell.cs), AV.list 5 (s.Held.map THeld.cs), AV.is x14.2]) rfl rfl ⟨rfl, rfl, (H2 M4 (H2 M4 (H2 (N1 (G4 (i := 0) rfl) J4) (H2 M4 V4))))⟩ (T9 2 rfl rfl (T9 3 rfl rfl R5))) ?_
  refine O1 (by first | (simp only [TState.ow, TState.ocs, pick, S9, S6, S2, R9, S3, List.nil_append, T0, S7, List.append_nil, R6, List.take_zero, S0, List.drop_zero]; exact rfl) | exact rfl) ?_
  refine AWP.le (H4 [4, 6] rfl) ?_
  refine U4 _ [(0, false), (1, false), (2, false), (3, false), (4, false), (5, false), (6, false), (7, false), (8, false), (9, false), (10, false), (12, false), (13, false), (11, true), (14, true), (15, false), (16, true)] (by kernel_rfl) (by kernel_rfl) rfl (W8 2) ?_
  refine G1 rfl rfl rfl (fun ext => B1 2 rfl C0 rfl G2 (A0 rfl) rfl) ?_
  refine G1 rfl rfl rfl (fun ext => B0 0 rfl (A0 rfl) rfl L3 rfl) ?_
  refine G1 rfl rfl rfl (fun ext => B1 1 rfl B4 rfl B3 (A0 rfl) rfl) ?_
  refine G1 rfl rfl rfl (fun ext => B0 1 rfl (A0 rfl) rfl B9 rfl) ?_
  refine G1 rfl rfl rfl (fun ext => B1 2 rfl B4 rfl B3 (A0 rfl) rfl) ?_
  refine G1 rfl rfl rfl (fun ext => B0 1 rfl (A0 rfl) rfl B9 rfl) ?_
  refine G1 rfl rfl rfl (fun ext => B1 3 rfl B4 rfl B3 (A0 rfl) rfl) ?_
  refine G1 rfl rfl rfl (fun ext => B0 1 rfl (A0 rfl) rfl B9 rfl) ?_
  refine G1 rfl rfl rfl (fun ext => B1 4 rfl B4 rfl M7 (A0 rfl) rfl) ?_
  refine G1 rfl rfl rfl (fun ext => B0 1 rfl (A0 rfl) rfl P6 rfl) ?_
  refine G1 rfl rfl rfl (fun ext => E4 rfl Tryz.call202 rfl (AN1 _ (by omega)) (A7 (A0 rfl) C6)) ?_
  refine G1 rfl rfl rfl (fun ext => B1 5 rfl B4 rfl K2 (A0 rfl) rfl) ?_
  refine G1 rfl rfl rfl (fun ext => B0 1 rfl (A0 rfl) rfl L9 rfl) ?_
  refine U2 rfl rfl rfl (Y1 rfl G3 I3) (fun a _ => (by first | exact F2 rfl | exact F2 (List.append_assoc _ _ _) | exact I7)) ?_
  intro v60 _
  refine U2 rfl rfl rfl (Ae7 [9] (fun _ => rfl) (fun _ => N1 (G4 (i := 0) rfl) J4) (fun _ => (T9 4 rfl rfl (T9 5 rfl rfl R5))) (O6 (by' := 40) 9 rfl G3 Tryz.type101 rfl rfl rfl rfl rfl rfl (A0 rfl) (A0 rfl) rfl (by simp only [L6, A8]; omega))) (fun a _ => (by first | exact F2 rfl | exact F2 (List.append_assoc _ _ _) | exact I7)) ?_
  intro v63_1 _
  refine G1 rfl rfl rfl (fun ext => O0 (places := #[(0, 1), (1, 1), (2, 1), (3, 1), (4, 1)]) rfl F1 Tryz.zeroValue141 (fun w => by kernel_rfl) rfl (D9 (A0 rfl) (K5 _ _) (D9 (A0 rfl) (K5 _ _) (D9 (A0 rfl) (K5 _ _) (D9 (A0 rfl) (U8 _ _) (D9 (A0 rfl) (U8 _ _) H7))))) rfl) ?_
  refine U2 rfl rfl rfl (n4 [] rfl Tryz.call201 rfl (AQ9 s.Held (hOf r) hgh (by omega)) (A7 (A0 rfl) (A7 (A0 rfl) C6)) rfl) (fun a _ => (by first | exact F2 rfl | exact F2 (List.append_assoc _ _ _) | exact I7)) ?_
  intro x65 ok65
  refine j7 ?_
  refine A1 rfl (B1 2 rfl C0 rfl G2 (A0 rfl) rfl) ?_
  refine W4 9 rfl fun one_x65 => ?_
  refine K4 0 rfl rfl rfl (A0 rfl) (A0 rfl) (V5 one_x65) rfl G2 rfl ?_
  refine A4 (A3 ?_)
  refine O1 (by first | (simp only [TState.ow, TState.ocs, pick, S9, S6, S2, R9, S3, List.nil_append, T0, S7, List.append_nil, R6, List.take_zero, S0, List.drop_zero]; exact rfl) | exact rfl) ?_
  refine A2 ?_
  refine A1 rfl (B1 2 rfl B4 rfl B3 (A0 rfl) rfl) ?_
  refine A1 rfl (B0 1 rfl (A0 rfl) rfl B9 rfl) ?_
  refine A1 rfl (B1 0 rfl C0 rfl B3 (A0 rfl) rfl) ?_
  refine K4 0 rfl rfl rfl (A0 rfl) (A0 rfl) (K5 _ _) rfl B3 rfl ?_
  refine A4 (A3 ?_)
  refine O1 (by first | (simp only [TState.ow, TState.ocs, pick, S9, S6, S2, R9, S3, List.nil_append, T0, S7, List.append_nil, R6, List.take_zero, S0, List.drop_zero]; exact rfl) | exact rfl) ?_
  refine AWP.le (H4 [0, 0, 6, 2, 2] rfl) ?_
  refine X7 _ 19 (.pure 0 (.pure 1 (.pure 2 (.pure 3 (.pure 4 (.pure 5 (.pure 6 (.pure 7 (.pure 8 (.pure 9 (.pure 10 (.pure 11 (.pure 12 (.pure 13 (.pure 14 (.pure 15 (.pure 16 (.pure 17 (.e1 18 .nil))))))))))))))))))) (by kernel_rfl) (by kernel_rfl) rfl (W8 5) ?_
  refine H0 rfl rfl rfl (fun ext => F7 0 rfl (A0 rfl) rfl E2 C2 rfl) ?_
  refine H0 rfl rfl rfl (fun ext => C1 rfl (A0 rfl)) ?_
  refine H0 rfl rfl rfl (fun ext => M2 rfl (A0 rfl)) ?_
  refine H0 rfl rfl rfl (fun ext => C1 rfl (A0 rfl)) ?_
  refine W3 rfl rfl (H1 rfl rfl rfl) (fun hc ext => B1 2 rfl B4 rfl B3 (A0 rfl) rfl) ?_
  refine W3 rfl rfl (H1 rfl rfl rfl) (fun hc ext => B0 1 rfl (A6 rfl hc) rfl B9 rfl) ?_
  refine W3 rfl rfl (H1 rfl rfl rfl) (fun hc ext => B1 0 rfl C0 rfl B3 (A0 rfl) rfl) ?_
  refine W3 rfl rfl (H1 rfl rfl rfl) (fun hc ext => B0 2 rfl (A6 rfl hc) rfl B9 rfl) ?_
  refine W3 rfl rfl (H1 rfl rfl rfl) (fun hc ext => O5 rfl (A6 rfl hc) (A6 rfl hc)) ?_
  refine H0 rfl rfl rfl (fun ext => H6 rfl (A0 rfl) (F6 rfl)) ?_
  refine H0 rfl rfl rfl (fun ext => C1 rfl (A0 rfl)) ?_
  refine W3 rfl rfl (H1 rfl rfl rfl) (fun hc ext => F7 2 rfl (A0 rfl) rfl E2 C2 rfl) ?_
  refine W3 rfl rfl (H1 rfl rfl rfl) (fun hc ext => B1 4 rfl B4 rfl M7 (A0 rfl) rfl) ?_
  refine W3 rfl rfl (H1 rfl rfl rfl) (fun hc ext => B0 1 rfl (A6 rfl hc) rfl P6 rfl) ?_
  refine W3 rfl rfl (H1 rfl rfl rfl) (fun hc ext => B1 5 rfl B4 rfl K2 (A0 rfl) rfl) ?_
  refine W3 rfl rfl (H1 rfl rfl rfl) (fun hc ext => B0 1 rfl (A6 rfl hc) rfl L9 rfl) ?_
  refine W3 rfl rfl (H1 rfl rfl rfl) (fun hc ext => g8 rfl Tryz.call203 rfl (AW4 s r.Reads r.Writes (by omega) (by omega)) (D0 _) (Q4 (AK5 (A6 rfl hc) (j6 (H2 M4 (H2 M4 (H2 (N1 (G4 (i := 3) rfl) J4) (H2 (N1 (G4 (i := 4) rfl) J4) V4)))))) (Q4 (evb (A6 rfl hc)) (Q4 (evb (A6 rfl hc)) X3)))) ?_
  refine H0 rfl rfl rfl (fun ext => H6 rfl (A0 rfl) (F6 rfl)) ?_
  refine X8 ?_
  refine AV5 rfl rfl rfl (t8 8 rfl rfl (A0 rfl) (A0 rfl) (E7 _) rfl C2 rfl) (fun a _ => (by first | exact F2 rfl | exact F2 (List.append_assoc _ _ _) | exact I7)) ?_
  intro _ _
  refine c5 ?_
  refine B5 rfl ?_
  refine A4 ?_
  refine C5 ?_
  exact N5 [3, 3, 7, 5] (x65, x14.2) (trivial) rfl (by rfl) (W6 rfl (by decide) (F4 (L1 (ys := _) 8 rfl rfl E2 C2 rfl) (F4 (C3 rfl (by rfl)) M5)))
 intro h45
 have k45 := O8 h45; try simp only [A8] at k45
 have hk1 : r.Kind ≠ 1 := by simpa using h45
 have hap : applyS s r = (if r.Yes = true then (match findH s.Held r.Txn with | none => (s, false) | some h => if r.Time < h.Time then (s, false) else if (putP s.Cells h.Writes r.Time).2 = true then (doneS s r (if s.Floor < r.Time then r.Time else s.Floor) (putP s.Cells h.Writes r.Time).1, true) else (s, false)) else (doneS s r s.Floor s.Cells, true)) := by (unfold applyS; rw [if_neg hk4, if_neg hnT, if_neg hk1]; rfl)
 refine A3 (A2 ?_)
 refine A1 rfl (B1 6 rfl B4 rfl J8 (A0 rfl) rfl) ?_
 refine A1 rfl (B0 8 rfl (A0 rfl) rfl L8 rfl) ?_
 refine B5 rfl ?_
 refine A4 ?_
 refine C4 (A0 rfl) ?_ ?_
 ·intro h88
  refine A3 (A3 (A2 ?_))
  refine A5 rfl ?_
  refine A1 rfl (M2 rfl (A0 rfl)) ?_
  refine A5 rfl ?_
  refine J5 rfl (fun hc => B1 1 rfl F1 rfl B3 (A0 rfl) rfl) ?_
  refine J5 rfl (fun hc => B0 1 rfl (A6 rfl hc) rfl B9 rfl) ?_
  refine J5 rfl (fun hc => B1 2 rfl B4 rfl B3 (A0 rfl) rfl) ?_
  refine J5 rfl (fun hc => B0 8 rfl (A6 rfl hc) rfl B9 rfl) ?_
  refine J5 rfl (fun hc => O5 rfl (A6 rfl hc) (A6 rfl hc)) ?_
  refine A1 rfl (T5 rfl (A0 rfl) (F6 rfl)) ?_
  refine A4 ?_
  refine C4 (A0 rfl) ?_ ?_
  ·intro h99
   have he : applyS s r = (s, false) := by (rw [hap, if_pos h88]; cases e : hasH s.Held r.Txn with | false => (rw [hf0 e]) | true => (rw [hf1 e]; dsimp only; rw [if_pos (by rw [e] at h99; simpa using h99)]))
   rw [he]
   refine A3 ?_
   refine O1 (by first | (simp only [TState.ow, TState.ocs, pick, S9, S6, S2, R9, S3, List.nil_append, T0, S7, List.append_nil, R6, List.take_zero, S0, List.drop_zero]; exact rfl) | exact rfl) ?_
   refine A2 ?_
   refine A1 rfl (F7 4 rfl (A0 rfl) rfl E2 C2 rfl) ?_
   refine D6 7 rfl rfl rfl (A0 rfl) (A0 rfl) (E7 _) rfl C2 rfl ?_
   refine A1 rfl (B7 rfl F5) ?_
   refine A4 ?_
   refine C5 ?_
   exact N5 [2, 2, 3, 3] (x14.1, x14.2) (trivial) rfl (by rfl) (W6 rfl (by decide) (F4 (L1 (ys := _) 7 rfl rfl E2 C2 rfl) (F4 (C3 rfl (by rfl)) M5)))
  intro h99
  simp only [Bool.or_eq_false_iff, Bool.not_eq_false', decide_eq_false_iff_not] at h99
  obtain ⟨hhas, hnlt⟩ := h99
  obtain ⟨hz1, hz2⟩ := hhs hhas
  have hz3 : h.size = sizeL (fun x => x.length) h.Reads + sizeL TWrite.size h.Writes := rfl
  refine C7 (A3 ?_)
  refine O1 (by first | (simp only [TState.ow, TState.ocs, pick, S9, S6, S2, R9, S3, List.nil_append, T0, S7, List.append_nil, R6, List.take_zero, S0, List.drop_zero]; exact rfl) | exact rfl) ?_
  refine A2 ?_
  refine A1 rfl (B1 1 rfl C0 rfl N9 (A0 rfl) rfl) ?_
  refine A1 rfl (B0 9 rfl (A0 rfl) rfl Q1 rfl) ?_
  refine A1 rfl (B1 4 rfl F1 rfl K2 (A0 rfl) rfl) ?_
  refine A1 rfl (B0 1 rfl (A0 rfl) rfl L9 rfl) ?_
  refine A1 rfl (B1 2 rfl B4 rfl B3 (A0 rfl) rfl) ?_
  refine A1 rfl (B0 8 rfl (A0 rfl) rfl B9 rfl) ?_
  refine A1 rfl (E4 rfl Tryz.call204 rfl (AR0 s.Cells h.Writes r.Time hgc (by omega) (by omega) (by omega)) (A7 (A0 rfl) (A7 (A0 rfl) (A7 (A0 rfl) C6)))) ?_
  refine A5 rfl ?_
  refine A1 rfl (H8 rfl (A0 rfl) rfl) ?_
  refine A1 rfl (H8 rfl (A0 rfl) rfl) ?_
  refine B5 rfl ?_
  refine B5 rfl ?_
  refine A4 (A3 (A3 (A2 ?_)))
  refine A5 rfl ?_
  refine A1 rfl (M2 rfl (A0 rfl)) ?_
  refine A4 ?_
  refine C4 (A0 rfl) ?_ ?_
  ·intro h112
   have he : applyS s r = (s, false) := by (rw [hap, if_pos h88, hf1 hhas]; dsimp only; rw [if_neg (by omega), if_neg (by simpa using h112)])
   rw [he]
   refine A3 (A2 ?_)
   refine A1 rfl (F7 4 rfl (A0 rfl) rfl E2 C2 rfl) ?_
   refine D6 7 rfl rfl rfl (A0 rfl) (A0 rfl) (E7 _) rfl C2 rfl ?_
   refine A1 rfl (B7 rfl F5) ?_
   refine A4 ?_
   refine C5 ?_
   exact N5 [2, 2, 3, 3] (x14.1, x14.2) (trivial) rfl (by rfl) (W6 rfl (by decide) (F4 (L1 (ys := _) 7 rfl rfl E2 C2 rfl) (F4 (C3 rfl (by rfl)) M5)))
  intro h112
  have he : applyS s r = (doneS s r (if s.Floor < r.Time then r.Time else s.Floor) (putP s.Cells h.Writes r.Time).1, true) := by (rw [hap, if_pos h88, hf1 hhas]; dsimp only; rw [if_neg (by omega), if_pos (by simpa using h112)])
  rw [he]
  unfold doneS
  refine C7 (A3 ?_)
  refine O1 (by first | (simp only [TState.ow, TState.ocs, pick, S9, S6, S2, R9, S3, List.nil_append, T0, S7, List.append_nil, R6, List.take_zero, S0, List.drop_zero]; exact rfl) | exact rfl) ?_
  refine A2 ?_
  refine A5 rfl ?_
  refine A1 rfl (B1 1 rfl C0 rfl N9 (A0 rfl) rfl) ?_
  refine K4 4 rfl rfl rfl (A0 rfl) (A0 rfl) (U8 _ _) rfl N9 rfl ?_
  refine A4 ?_
  refine O1 (by first | (simp only [TState.ow, TState.ocs, pick, S9, S6, S2, R9, S3, List.nil_append, T0, S7, List.append_nil, R6, List.take_zero, S0, List.drop_zero]; exact rfl) | exact rfl) ?_
  refine A2 ?_
  refine A1 rfl (B1 0 rfl C0 rfl B3 (A0 rfl) rfl) ?_
  refine A1 rfl (B0 9 rfl (A0 rfl) rfl B9 rfl) ?_
  refine A1 rfl (B1 2 rfl B4 rfl B3 (A0 rfl) rfl) ?_
  refine A1 rfl (B0 8 rfl (A0 rfl) rfl B9 rfl) ?_
  refine A1 rfl (E4 rfl Tryz.call62 rfl (AB9 _ _) (A7 (A0 rfl) (A7 (A0 rfl) C6))) ?_
  refine A1 rfl (B1 0 rfl C0 rfl B3 (A0 rfl) rfl) ?_
  refine K4 4 rfl rfl rfl (A0 rfl) (A0 rfl) (K5 _ _) rfl B3 rfl ?_
  refine A4 (A3 ?_)
  refine AWP.le (s4 [5, 5] 4 (.box b6 43 [_, _, AV.list 5 (s.Held.map THeld.cs), AV.list 3 (s.Told.map TTold.cs)]) rfl rfl ⟨rfl, rfl, (H2 M4 (H2 M4 (H2 (N1 (G4 (i := 0) rfl) J4) (H2 (N1 (G4 (i := 1) rfl) J4) V4))))⟩ (T9 2 rfl rfl (T9 3 rfl rfl R5))) ?_
  refine O1 (by first | (simp only [TState.ow, TState.ocs, pick, S9, S6, S2, R9, S3, List.nil_append, T0, S7, List.append_nil, R6, List.take_zero, S0, List.drop_zero]; exact rfl) | exact rfl) ?_
  refine A2 ?_
  refine A1 rfl (B1 2 rfl C0 rfl G2 (A0 rfl) rfl) ?_
  refine A1 rfl (B0 4 rfl (A0 rfl) rfl L3 rfl) ?_
  refine A1 rfl (B1 1 rfl B4 rfl B3 (A0 rfl) rfl) ?_
  refine A1 rfl (B0 6 rfl (A0 rfl) rfl B9 rfl) ?_
  refine J7 [] rfl rfl rfl rfl Tryz.call205 rfl (AT4 s.Held r.Txn (by omega)) (A7 (A0 rfl) (A7 (A0 rfl) C6)) rfl ?_
  intro x126 ok126
  refine A1 rfl (B1 2 rfl C0 rfl G2 (A0 rfl) rfl) ?_
  refine W4 0 rfl fun one_x126 => ?_
  refine K4 5 rfl rfl rfl (A0 rfl) (A0 rfl) (V5 one_x126) rfl G2 rfl ?_
  refine A4 (A3 ?_)
  refine O1 (by first | (simp only [TState.ow, TState.ocs, pick, S9, S6, S2, R9, S3, List.nil_append, T0, S7, List.append_nil, R6, List.take_zero, S0, List.drop_zero]; exact rfl) | exact rfl) ?_
  refine A2 ?_
  refine A1 rfl (B1 3 rfl C0 rfl N2 (A0 rfl) rfl) ?_
  refine A1 rfl (B0 5 rfl (A0 rfl) rfl T7 rfl) ?_
  refine A1 rfl (B1 1 rfl B4 rfl B3 (A0 rfl) rfl) ?_
  refine A1 rfl (B0 7 rfl (A0 rfl) rfl B9 rfl) ?_
  refine A1 rfl (B1 6 rfl B4 rfl J8 (A0 rfl) rfl) ?_
  refine A1 rfl (B0 7 rfl (A0 rfl) rfl L8 rfl) ?_
  refine A1 rfl (B1 2 rfl B4 rfl B3 (A0 rfl) rfl) ?_
  refine A1 rfl (B0 7 rfl (A0 rfl) rfl B9 rfl) ?_
  refine A1 rfl (O0 (places := #[(0, 1), (1, 1), (2, 1)]) rfl K9 Tryz.zeroValue144 (fun w => by kernel_rfl) rfl (D9 (A0 rfl) (K5 _ _) (D9 (A0 rfl) (Y6 _) (D9 (A0 rfl) (K5 _ _) H7))) rfl) ?_
  refine J7 [] rfl rfl rfl rfl Tryz.call206 rfl (AF0 s.Told ⟨r.Txn, r.Yes, r.Time⟩ hgt (by omega)) (A7 (A0 rfl) (A7 (A0 rfl) C6)) rfl ?_
  intro x137 ok137
  refine A1 rfl (B1 3 rfl C0 rfl N2 (A0 rfl) rfl) ?_
  refine W4 0 rfl fun one_x137 => ?_
  refine K4 6 rfl rfl rfl (A0 rfl) (A0 rfl) (V5 one_x137) rfl N2 rfl ?_
  refine A4 (A3 ?_)
  refine O1 (by first | (simp only [TState.ow, TState.ocs, pick, S9, S6, S2, R9, S3, List.nil_append, T0, S7, List.append_nil, R6, List.take_zero, S0, List.drop_zero]; exact rfl) | exact rfl) ?_
  refine A2 ?_
  refine A1 rfl (F7 6 rfl (A0 rfl) rfl E2 C2 rfl) ?_
  refine D6 7 rfl rfl rfl (A0 rfl) (A0 rfl) (E7 _) rfl C2 rfl ?_
  refine A1 rfl (B7 rfl F5) ?_
  refine A4 ?_
  refine C5 ?_
  exact N5 [4, 4, 1, 0] (x126, x137) (trivial) rfl (by rfl) (W6 rfl (by decide) (F4 (L1 (ys := _) 7 rfl rfl E2 C2 rfl) (F4 (C3 rfl (by rfl)) M5)))
 intro h88
 have he : applyS s r = (doneS s r s.Floor s.Cells, true) := by (rw [hap, if_neg (by rw [h88]; decide)])
 rw [he]
 unfold doneS
 refine C7 (A3 ?_)
 refine AWP.le (s4 [5, 5] 4 (.box b6 43 [_, _, AV.list 5 (s.Held.map THeld.cs), AV.list 3 (s.Told.map TTold.cs)]) rfl rfl ⟨rfl, rfl, (H2 M4 (H2 M4 (H2 (N1 (G4 (i := 0) rfl) J4) (H2 (N1 (G4 (i := 1) rfl) J4) V4))))⟩ (T9 2 rfl rfl (T9 3 rfl rfl R5))) ?_
 refine O1 (by first | (simp only [TState.ow, TState.ocs, pick, S9, S6, S2, R9, S3, List.nil_append, T0, S7, List.append_nil, R6, List.take_zero, S0, List.drop_zero]; exact rfl) | exact rfl) ?_
 refine A2 ?_
 refine A1 rfl (B1 2 rfl C0 rfl G2 (A0 rfl) rfl) ?_
 refine A1 rfl (B0 4 rfl (A0 rfl) rfl L3 rfl) ?_
 refine A1 rfl (B1 1 rfl B4 rfl B3 (A0 rfl) rfl) ?_
 refine A1 rfl (B0 6 rfl (A0 rfl) rfl B9 rfl) ?_
 refine J7 [] rfl rfl rfl rfl Tryz.call205 rfl (AT4 s.Held r.Txn (by omega)) (A7 (A0 rfl) (A7 (A0 rfl) C6)) rfl ?_
 intro x126 ok126
 refine A1 rfl (B1 2 rfl C0 rfl G2 (A0 rfl) rfl) ?_
 refine W4 0 rfl fun one_x126 => ?_
 refine K4 5 rfl rfl rfl (A0 rfl) (A0 rfl) (V5 one_x126) rfl G2 rfl ?_
 refine A4 (A3 ?_)
 refine O1 (by first | (simp only [TState.ow, TState.ocs, pick, S9, S6, S2, R9, S3, List.nil_append, T0, S7, List.append_nil, R6, List.take_zero, S0, List.drop_zero]; exact rfl) | exact rfl) ?_
 refine A2 ?_
 refine A1 rfl (B1 3 rfl C0 rfl N2 (A0 rfl) rfl) ?_
 refine A1 rfl (B0 5 rfl (A0 rfl) rfl T7 rfl) ?_
 refine A1 rfl (B1 1 rfl B4 rfl B3 (A0 rfl) rfl) ?_
 refine A1 rfl (B0 7 rfl (A0 rfl) rfl B9 rfl) ?_
 refine A1 rfl (B1 6 rfl B4 rfl J8 (A0 rfl) rfl) ?_
 refine A1 rfl (B0 7 rfl (A0 rfl) rfl L8 rfl) ?_
 refine A1 rfl (B1 2 rfl B4 rfl B3 (A0 rfl) rfl) ?_
 refine A1 rfl (B0 7 rfl (A0 rfl) rfl B9 rfl) ?_
 refine A1 rfl (O0 (places := #[(0, 1), (1, 1), (2, 1)]) rfl K9 Tryz.zeroValue144 (fun w => by kernel_rfl) rfl (D9 (A0 rfl) (K5 _ _) (D9 (A0 rfl) (Y6 _) (D9 (A0 rfl) (K5 _ _) H7))) rfl) ?_
 refine J7 [] rfl rfl rfl rfl Tryz.call206 rfl (AF0 s.Told ⟨r.Txn, r.Yes, r.Time⟩ hgt (by omega)) (A7 (A0 rfl) (A7 (A0 rfl) C6)) rfl ?_
 intro x137 ok137
 refine A1 rfl (B1 3 rfl C0 rfl N2 (A0 rfl) rfl) ?_
 refine W4 0 rfl fun one_x137 => ?_
 refine K4 6 rfl rfl rfl (A0 rfl) (A0 rfl) (V5 one_x137) rfl N2 rfl ?_
 refine A4 (A3 ?_)
 refine O1 (by first | (simp only [TState.ow, TState.ocs, pick, S9, S6, S2, R9, S3, List.nil_append, T0, S7, List.append_nil, R6, List.take_zero, S0, List.drop_zero]; exact rfl) | exact rfl) ?_
 refine A2 ?_
 refine A1 rfl (F7 6 rfl (A0 rfl) rfl E2 C2 rfl) ?_
 refine D6 7 rfl rfl rfl (A0 rfl) (A0 rfl) (E7 _) rfl C2 rfl ?_
 refine A1 rfl (B7 rfl F5) ?_
 refine A4 ?_
 refine C5 ?_
 exact N5 [4, 4, 1, 0] (x126, x137) (trivial) rfl (by rfl) (W6 rfl (by decide) (F4 (L1 (ys := _) 7 rfl rfl E2 C2 rfl) (F4 (C3 rfl (by rfl)) M5)))
end Go.Proofs.YtkegepoihkhihaaGreat

namespace Go.M
open Go.AV
structure SB (m : Int) (s : TState) : Prop where
  floor : 0 ≤ s.Floor ∧ s.Floor ≤ m
  leads : ∀ h ∈ s.Held, 0 ≤ h.Lead ∧ h.Lead ≤ 3
theorem sb_apply {m : Int} {s : TState} (g : SB m s) {r : TRec} (h1 : r.Time ≤ m) (h2 : 0 ≤ r.Lead ∧ r.Lead ≤ 3) (h : (applyS s r).2 = true) : SB m (applyS s r).1 := by
  obtain ⟨g1, g2⟩ := g
  have hless : ∀ h ∈ lessH s.Held r.Txn, 0 ≤ h.Lead ∧ h.Lead ≤ 3 := fun k hk => g2 k (Ad8.1 hk).1
  unfold applyS at h ⊢
  by_cases h4 : r.Kind = 4
  · rw [if_pos h4] at h ⊢
    have := of_decide_eq_true h
    exact ⟨⟨by dsimp only; omega, h1⟩, g2⟩
  · rw [if_neg h4] at h ⊢
    by_cases hT : hasT s.Told r.Txn = true
    · rw [if_pos hT] at h; cases h
    · rw [if_neg hT] at h ⊢
      by_cases hk : r.Kind = 1
      · rw [if_pos hk] at h ⊢
        simp only [Bool.and_eq_true, Bool.not_eq_true', decide_eq_true_eq] at h
        refine ⟨⟨by dsimp only; omega, h1⟩, fun k hm => ?_⟩
        rcases AS7.1 hm with rfl | hm
        · exact h2
        · exact g2 k hm
      · rw [if_neg hk] at h ⊢
        by_cases hy : r.Yes = true
        · rw [if_pos hy] at h ⊢
          cases hf : findH s.Held r.Txn with
          | none => rw [hf] at h; cases h
          | some k =>
            rw [hf] at h
            dsimp only at h ⊢
            by_cases hlt : r.Time < k.Time
            · rw [if_pos hlt] at h; cases h
            · rw [if_neg hlt] at h ⊢
              by_cases hp : (putP s.Cells k.Writes r.Time).2 = true
              · rw [if_pos hp]; exact ⟨by unfold doneS; dsimp only; split <;> omega, hless⟩
              · rw [if_neg hp] at h; cases h
        · rw [if_neg hy]; exact ⟨g1, hless⟩
theorem sb_step {m : Int} {s : TState} (g : SB m s) {r : TRec} (h1 : r.Time ≤ m) (h2 : 0 ≤ r.Lead ∧ r.Lead ≤ 3) : SB m (stepS s r) := by
  unfold stepS
  split
  · exact sb_apply g h1 h2 ‹_›
  · exact g
theorem At7 {m : Int} : ∀ {l : List TRec} {s : TState}, SB m s → (∀ r ∈ l, r.Time ≤ m ∧ 0 ≤ r.Lead ∧ r.Lead ≤ 3) → SB m (stFrom s l)
  | [], s, g, _ => g
  | r :: l, s, g, h => by
    show SB m (stFrom (stepS s r) l)
    exact At7 (sb_step g (h r List.mem_cons_self).1 (h r List.mem_cons_self).2) fun x hx => h x (List.mem_cons_of_mem _ hx)
theorem st_phi {l : List TRec} (hl : l.length ≤ 11) (h : ∀ r ∈ l, r.size ≤ 1000) : phi (stFrom zState l) ≤ 33044 := by
  have h2 := AB8 (m := 1000) (s := zState) (l := l) h
  have h3 : phi zState = 0 := rfl
  have h5 : l.length * (3 * (1 + 1000) + 1) ≤ 11 * 3004 := Nat.mul_le_mul hl (by decide)
  omega
end Go.M
namespace Go.Proofs.YtkegepoihkhihaaGreat
open Go Go.AV Go.M
attribute [local irreducible] OpW OpA OpS AWP FSpec ESpec GSpec OpE RetOk RetOkG RvDen Le Ev GuardIs SrcIs SrcE Int.tmod Int.tdiv IntKind.wrap bandI
theorem ofK_own (l : List TRec) (hl : l.length ≤ 60) (hr : ∀ r ∈ l, r.size ≤ 1100) : GSpec Tryz.prog 107 [AV.list 7 (l.map TRec.cs)] [] (fun _ : Value × Value × Value => True) (fun x => TState.ow (stFrom zState l) (x.1, x.2.1) ++ [.arr x.2.2 4 1 ((didFrom zState l).map fun b => [AV.bool b])]) (fun x => AV.tup [AV.agg (TState.ocs (stFrom zState l) (x.1, x.2.1)), AV.is x.2.2]) := by
 have hgs : ∀ i, SO (stFrom zState (l.take i)) := fun i => AO5 Aa0
 have hsz : ∀ i, (stFrom zState (l.take i)).size ≤ 300000 := fun i => by
  have h1 := AI1 (stFrom zState (l.take i))
  have h2 := AB8 (m := 1100) (s := zState) (l := l.take i) fun r hr2 => hr r (List.mem_of_mem_take hr2)
  have h3 : phi zState = 0 := rfl
  have h4 : (l.take i).length ≤ 60 := by rw [F0]; omega
  have h5 : (l.take i).length * (3 * (1 + 1100) + 1) ≤ 60 * 3304 := Nat.mul_le_mul h4 (by decide)
  omega
 refine J9 Tryz.func107 rfl Tryz.ntmps107 rfl ?_
 refine A3 (A2 ?_)
 refine F9 rfl rfl rfl rfl Tryz.zeroValue43 rfl ?_
 intro b2
 refine A1 rfl (B7 rfl O7) ?_
 refine A4 (A3 (A2 ?_))
 refine F9 rfl rfl rfl rfl Tryz.zeroValue43 rfl ?_
 intro b4
 refine A4 (A3 (A2 ?_))
 refine j5 4 1 rfl rfl rfl rfl O7 ?_
 intro v5
 refine A4 (A3 (A3 ?_))
 refine AWP.le (z8 1 1 2 rfl rfl R5) ?_
 refine A2 ?_
 refine A5 rfl ?_
 refine A1 rfl (G9 rfl I4 (A0 rfl)) ?_
 refine A1 rfl (C1 rfl B6) ?_
 refine A4 (C8 ?_)
 refine a6 141 5 ?_
 refine a6 144 3 ?_
 refine AWP.le (H4 [3, 1, 0, 0] rfl) ?_
 refine c7 [(2, _), (3, _), (4, _), (10, _), (11, _)] _ (fun (i : Nat) (y : Value × Value) (v : Value) (bs : List Bool) => i ≤ l.length ∧ bs = didFrom zState (l.take i) ∧ bs.length ≤ i) (fun (i : Nat) (y : Value × Value) (v : Value) (bs : List Bool) => [.box b4 43 (TState.ocs (stFrom zState (l.take i)) y), .arr y.1 141 5 ((stFrom zState (l.take i)).Held.map THeld.cs), .arr y.2 144 3 ((stFrom zState (l.take i)).Told.map TTold.cs), .arr v 4 1 (bs.map fun b => [AV.bool b])]) (fun (i : Nat) (y : Value × Value) (v : Value) (bs : List Bool) => [(5, AV.is v), (12, AV.int i)]) (fun (i : Nat) (y : Value × Value) (v : Value) (bs : List Bool) => l.length - i) (0) (((Value.slice none 0 0), (Value.slice none 0 0))) (v5) ([]) ?_ (P8 (by rfl) ⟨rfl, rfl, rfl, rfl, rfl, rfl, rfl, trivial⟩) ?_
 ·exact ⟨Nat.zero_le _, rfl, Nat.le_refl _⟩
 intro i y v bs hinv
 refine A3 (A2 ?_)
 refine A1 rfl (J6 rfl (A0 rfl) (A0 rfl)) ?_
 refine A4 (A3 ?_)
 refine C4 (A0 rfl) ?_ ?_
 ·intro h13
  have k13 := of_decide_eq_true h13; try simp only [A8] at k13
  have hlt : i < l.length := by omega
  obtain ⟨r, hx⟩ := get_some hlt
  have hgr := hr r (G4 hx)
  have hgi := hgs i
  have hsi := hsz i
  refine C7 (A3 (C8 (A3 (A2 ?_))))
  refine A1 rfl (I9 rfl I4 F8 (A0 rfl) (A0 rfl) hx (by first | omega | (simp only [D3, A9, szR] at *; omega))) ?_
  refine A1 rfl (K6 rfl (A0 rfl) M8 F8) ?_
  refine F9 rfl rfl rfl rfl Tryz.zeroValue104 rfl ?_
  intro b7
  refine D6 0 rfl rfl rfl (A0 rfl) (A0 rfl) (E7 _) rfl F8 rfl ?_
  refine A4 (A3 ?_)
  refine O1 (by first | (simp only [TState.ow, TState.ocs, pick, S9, S6, S2, R9, S3, List.nil_append, T0, S7, List.append_nil, R6, List.take_zero, S0, List.drop_zero]; exact rfl) | exact rfl) ?_
  refine A2 ?_
  refine A1 rfl (F7 1 rfl (A0 rfl) rfl E2 C2 rfl) ?_
  refine A1 rfl (F7 0 rfl (A0 rfl) rfl M8 F8 rfl) ?_
  refine J7 [2, 2] rfl rfl rfl rfl Tryz.call164 rfl (Ax3 (stFrom zState (l.take i)) y r hgi (by omega) (by omega)) (A7 (A0 rfl) (A7 (A0 rfl) C6)) rfl ?_
  intro x19 ok19
  refine A5 rfl ?_
  refine A1 rfl (H8 rfl (A0 rfl) rfl) ?_
  refine A1 rfl (H8 rfl (A0 rfl) rfl) ?_
  refine F9 rfl rfl rfl rfl Tryz.zeroValue43 rfl ?_
  intro b8
  refine D6 0 rfl rfl rfl (A0 rfl) (A0 rfl) (E7 _) rfl C2 rfl ?_
  refine B5 rfl ?_
  refine A4 (A3 (A3 ?_))
  refine O1 (by first | (simp only [TState.ow, TState.ocs, pick, S9, S6, S2, R9, S3, List.nil_append, T0, S7, List.append_nil, R6, List.take_zero, S0, List.drop_zero]; exact rfl) | exact rfl) ?_
  refine A2 ?_
  refine A5 rfl ?_
  refine A4 ?_
  refine C4 (A0 rfl) ?_ ?_
  ·intro h22
   have hstep : (applyS (stFrom zState (l.take i)) r).1 = stepS (stFrom zState (l.take i)) r := by (unfold stepS; rw [if_pos h22])
   refine O1 (by first | (simp only [TState.ow, TState.ocs, pick, S9, S6, S2, R9, S3, List.nil_append, T0, S7, List.append_nil, R6, List.take_zero, S0, List.drop_zero]; exact rfl) | exact rfl) ?_
   refine A2 ?_
   refine A1 rfl (F7 0 rfl (A0 rfl) rfl E2 C2 rfl) ?_
   refine D6 6 rfl rfl rfl (A0 rfl) (A0 rfl) (E7 _) rfl C2 rfl ?_
   refine A4 ?_
   refine O1 (by first | (simp only [TState.ow, TState.ocs, pick, S9, S6, S2, R9, S3, List.nil_append, T0, S7, List.append_nil, R6, List.take_zero, S0, List.drop_zero]; exact rfl) | exact rfl) ?_
   refine A2 ?_
   refine A5 rfl ?_
   refine A5 rfl ?_
   refine A1 rfl (L0 rfl V3 J8 Tryz.zeroValue4 rfl rfl rfl rfl (D9 (A0 rfl) (Y6 _) H7) rfl rfl) ?_
   refine M0 (by' := 1) 7 rfl rfl rfl rfl V3 Tryz.type4 rfl rfl rfl rfl rfl rfl (A0 rfl) (A0 rfl) rfl (by first | omega | (simp only [D3, A9, szR] at *; omega)) ?_
   intro v27_1
   refine B5 rfl ?_
   refine A4 (A2 ?_)
   refine A1 rfl (G8 rfl (A0 rfl) B6 (by first | omega | (simp only [D3, A9, szR] at *; omega))) ?_
   refine A5 rfl ?_
   refine A4 ?_
   refine U9 i y v bs (i + 1) ((x19.1, x19.2)) (v27_1) (bs ++ [(applyS (stFrom zState (l.take i)) r).2]) ?_ ?_ (Le.trans (H4 [0, 0, 0, 2, 2, 0, 0, 0] rfl) (L7 4 (by first | (rw [List.map_append, u4 hx, ← hstep]; rfl) | rfl) ⟨rfl, rfl, rfl, rfl, rfl, rfl, rfl, trivial⟩))
   ·exact ⟨by omega, by rw [q7 hx, hinv.2.1], by rw [I5]; simp; omega⟩
   omega
  intro h22
  have hstep : stFrom zState (l.take i) = stepS (stFrom zState (l.take i)) r := by (conv => rhs; unfold stepS; rw [if_neg (by rw [h22]; decide)])
  refine C7 ?_
  refine O1 (by first | (simp only [TState.ow, TState.ocs, pick, S9, S6, S2, R9, S3, List.nil_append, T0, S7, List.append_nil, R6, List.take_zero, S0, List.drop_zero]; exact rfl) | exact rfl) ?_
  refine A2 ?_
  refine A5 rfl ?_
  refine A5 rfl ?_
  refine A1 rfl (L0 rfl V3 J8 Tryz.zeroValue4 rfl rfl rfl rfl (D9 (A0 rfl) (Y6 _) H7) rfl rfl) ?_
  refine M0 (by' := 1) 7 rfl rfl rfl rfl V3 Tryz.type4 rfl rfl rfl rfl rfl rfl (A0 rfl) (A0 rfl) rfl (by first | omega | (simp only [D3, A9, szR] at *; omega)) ?_
  intro v27_2
  refine B5 rfl ?_
  refine A4 (A2 ?_)
  refine A1 rfl (G8 rfl (A0 rfl) B6 (by first | omega | (simp only [D3, A9, szR] at *; omega))) ?_
  refine A5 rfl ?_
  refine A4 ?_
  refine U9 i y v bs (i + 1) ((y.1, y.2)) (v27_2) (bs ++ [(applyS (stFrom zState (l.take i)) r).2]) ?_ ?_ (Le.trans (H4 [0, 2, 2, 2, 2, 0, 0, 0] rfl) (L7 4 (by first | (rw [List.map_append, u4 hx, ← hstep]; rfl) | rfl) ⟨rfl, rfl, rfl, rfl, rfl, rfl, rfl, trivial⟩))
  ·exact ⟨by omega, by rw [q7 hx, hinv.2.1], by rw [I5]; simp; omega⟩
  omega
 intro h13
 have k13 := of_decide_eq_false h13; try simp only [A8] at k13
 have hge : i = l.length := by omega
 have hbs := hinv.2.1
 rw [hge, List.take_length] at hbs
 rw [hge, List.take_length, ← hbs]
 refine G6 ?_
 refine A3 ?_
 refine O1 (by first | (simp only [TState.ow, TState.ocs, pick, S9, S6, S2, R9, S3, List.nil_append, T0, S7, List.append_nil, R6, List.take_zero, S0, List.drop_zero]; exact rfl) | exact rfl) ?_
 refine A2 ?_
 refine A1 rfl (F7 0 rfl (A0 rfl) rfl E2 C2 rfl) ?_
 refine A5 rfl ?_
 refine D6 4 rfl rfl rfl (A0 rfl) (A0 rfl) (E7 _) rfl C2 rfl ?_
 refine B5 rfl ?_
 refine A4 ?_
 refine C5 ?_
 exact N5 [1, 1, 1] (y.1, y.2, v) (trivial) rfl (by rfl) (W6 rfl (by decide) (F4 (L1 (ys := _) 4 rfl rfl E2 C2 rfl) (F4 (C3 rfl (by rfl)) M5)))
theorem AR1 (b : Nat) (code : List Int) (hcode : ByteL code) (c : TCur) (hp : c.p ≤ 2000000) : GSpec Tryz.prog 116 [AV.ptr b 0] [.box b 114 (curC code c)] (fun x : TCur × TRec => x.1.p ≤ c.p + 100 ∧ x.2.size ≤ 1000 ∧ 0 ≤ x.2.Lead ∧ x.2.Lead ≤ 3 ∧ 0 ≤ x.2.Time ∧ x.2.Time ≤ 100001) (fun x => [.box b 114 (curC code x.1)]) (fun x => AV.agg x.2.cs) :=
  AQ1 (fun x => (x.1, x.2.1)) (fun x => TRec.ow x.2.1 x.2.2) (fun x => [.box b 114 (curC code x.1)]) (Ax2 b code hcode c hp) (fun _ h => h) (fun x _ => j6 (TRec.lc _ _)) (fun x _ => List.perm_append_comm (l₁ := [_])) (fun _ _ => T9 0 rfl rfl R5) (fun x _ => oc_cons ⟨rfl, rfl, AF3⟩ oc_nil)
theorem Aq8 (b : Nat) (code : List Int) (hcode : ByteL code) (c : TCur) (hp : c.p ≤ 900000) : GSpec Tryz.prog 210 [AV.ptr b 0] [.box b 114 (curC code c)] (fun x : TCur × List TRec × Value => x.1.p ≤ c.p + 1300 ∧ x.2.1.length ≤ 11 ∧ ∀ r ∈ x.2.1, r.size ≤ 1000 ∧ r.Time ≤ 33 ∧ 0 ≤ r.Lead ∧ r.Lead ≤ 3) (fun x => [.box b 114 (curC code x.1), .arr x.2.2 104 7 (x.2.1.map TRec.cs)]) (fun x => AV.is x.2.2) := by
 refine J9 Tryz.func210 rfl Tryz.ntmps210 rfl ?_
 refine A3 (A2 ?_)
 refine A1 rfl (B7 rfl O7) ?_
 refine A4 (A3 (A2 ?_))
 refine j5 104 7 rfl rfl rfl rfl O7 ?_
 intro v3
 refine A4 (A3 (A2 ?_))
 refine A1 rfl (B7 rfl B6) ?_
 refine A4 (A3 (A3 (A2 ?_)))
 refine A5 rfl ?_
 refine J7 [1] rfl rfl rfl rfl Tryz.call76 rfl (S4 _ _ hcode _ _ (by omega) (by omega)) (A7 (A0 rfl) (A7 B6 C6)) rfl ?_
 intro x9 ok9
 refine B5 rfl ?_
 refine A4 (C8 ?_)
 refine AWP.le (H4 [0, 0] rfl) ?_
 refine Ap0 [(0, _), (2, _)] _ (fun (n : Int) (cc : TCur) (l : List TRec) (v : Value) (t : Int) => (0 ≤ n ∧ n + l.length ≤ 11) ∧ cc.p + 110 * n ≤ c.p + 1220 ∧ (0 ≤ t ∧ t + 3 * n ≤ 33) ∧ ∀ r ∈ l, r.size ≤ 1000 ∧ r.Time ≤ 33 ∧ 0 ≤ r.Lead ∧ r.Lead ≤ 3) (fun (n : Int) (cc : TCur) (l : List TRec) (v : Value) (t : Int) => [.box b 114 (curC code cc), .arr v 104 7 (l.map TRec.cs)]) (fun (n : Int) (cc : TCur) (l : List TRec) (v : Value) (t : Int) => [(3, AV.is v), (4, AV.int t), (5, AV.int n)]) (fun (n : Int) (cc : TCur) (l : List TRec) (v : Value) (t : Int) => n.toNat) (x9.2) (x9.1) ([]) (v3) (0) ?_ (P8 (by rfl) ⟨rfl, rfl, rfl, rfl, rfl, trivial⟩) ?_
 ·exact ⟨⟨by omega, by simp; omega⟩, by omega, ⟨by omega, by omega⟩, fun r hr => by cases hr⟩
 intro n cc l v t hinv
 refine A3 (A3 (A2 ?_))
 refine A5 rfl ?_
 refine A1 rfl (O5 rfl (A0 rfl) B6) ?_
 refine A4 ?_
 refine C4 (A0 rfl) ?_ ?_
 ·intro h11
  have k11 := of_decide_eq_true h11; try simp only [A8] at k11
  refine C7 (A3 (C8 (A3 (A2 ?_))))
  refine A5 rfl ?_
  refine J7 [0] rfl rfl rfl rfl Tryz.call116 rfl (AR1 _ _ hcode _ (by omega)) (A7 (A0 rfl) C6) rfl ?_
  intro x15 ok15
  refine F9 rfl rfl rfl rfl Tryz.zeroValue104 rfl ?_
  intro b6
  refine D6 0 rfl rfl rfl (A0 rfl) (A0 rfl) (E7 _) rfl F8 rfl ?_
  refine A4 (A3 (A2 ?_))
  refine A5 rfl ?_
  refine A5 rfl ?_
  refine J7 [1] rfl rfl rfl rfl Tryz.call76 rfl (S4 _ _ hcode _ _ (by omega) (by omega)) (A7 (A0 rfl) (A7 B6 C6)) rfl ?_
  intro x18 ok18
  refine A1 rfl (G8 rfl B6 (A0 rfl) (by first | omega | (simp only [D3, A9, szR] at *; omega))) ?_
  refine A1 rfl (G8 rfl (A0 rfl) (A0 rfl) (by first | omega | (simp only [D3, A9, szR] at *; omega))) ?_
  refine B5 rfl ?_
  refine A4 (A3 (A3 (A2 ?_)))
  refine A1 rfl (B1 2 rfl B4 rfl B3 (A0 rfl) rfl) ?_
  refine A1 rfl (B0 1 rfl (A0 rfl) rfl B9 rfl) ?_
  refine A1 rfl (O5 rfl (A0 rfl) B6) ?_
  refine A4 ?_
  refine C4 (A0 rfl) ?_ ?_
  ·intro h23
   have k23 := of_decide_eq_true h23; try simp only [A8] at k23
   refine A2 ?_
   refine A5 rfl ?_
   refine A1 rfl (B1 2 rfl B4 rfl B3 (A0 rfl) rfl) ?_
   refine K4 1 rfl rfl rfl (A0 rfl) (A0 rfl) (K5 _ _) rfl B3 rfl ?_
   refine A4 (A3 (A3 (A2 ?_)))
   refine A1 rfl (B1 0 rfl B4 rfl B3 (A0 rfl) rfl) ?_
   refine A1 rfl (B0 1 rfl (A0 rfl) rfl B9 rfl) ?_
   refine A1 rfl (P4 rfl (A0 rfl) B6) ?_
   refine A5 rfl ?_
   refine J5 rfl (fun hc => B1 0 rfl B4 rfl B3 (A0 rfl) rfl) ?_
   refine J5 rfl (fun hc => B0 1 rfl (A6 rfl hc) rfl B9 rfl) ?_
   refine J5 rfl (fun hc => P4 rfl (A6 rfl hc) B6) ?_
   refine A1 rfl (T5 rfl (A0 rfl) (F6 rfl)) ?_
   refine A5 rfl ?_
   refine C9 rfl (fun hc => C1 rfl (A0 rfl)) ?_
   refine C9 rfl (fun hc => W1 2 rfl I4 (A6 rfl hc) rfl) ?_
   refine C9 rfl (fun hc => O5 rfl (A6 rfl hc) B6) ?_
   refine A1 rfl (H6 rfl (A0 rfl) (F6 rfl)) ?_
   refine A4 ?_
   refine C4 (A0 rfl) ?_ ?_
   ·intro h38
    have hll : 0 < l.length := by (cases hm : l with | nil => (rw [hm] at h38; simp at h38) | cons y q => simp)
    refine A3 (A2 ?_)
    refine A5 rfl ?_
    refine A5 rfl ?_
    refine A5 rfl ?_
    refine A1 rfl (W1 2 rfl I4 (A0 rfl) rfl) ?_
    refine J7 [0] rfl rfl rfl rfl Tryz.call76 rfl (S4 _ _ hcode _ _ (by simp only [A8]; omega) (by omega)) (A7 (A0 rfl) (A7 (A0 rfl) C6)) rfl ?_
    intro x43 ok43
    have hix : x43.2.toNat < l.length := by (have h9 := ok43.2; simp only [A8] at h9; omega)
    obtain ⟨z, hz⟩ := get_some hix
    have hrow : (l.map TRec.cs)[x43.2.toNat]? = some z.cs := by (rw [List.getElem?_map, hz]; rfl)
    refine A1 rfl (W5 2 rfl I4 F8 (A0 rfl) rfl (A0 rfl) (by omega) (by first | omega | (simp only [A8]; omega))) ?_
    refine A1 rfl (d7 2 rfl (A0 rfl) rfl M8 F8 hrow (by decide)) ?_
    refine F9 rfl rfl rfl rfl Tryz.zeroValue104 rfl ?_
    intro b7
    refine D6 0 rfl rfl rfl (A0 rfl) (A0 rfl) (E7 _) rfl F8 rfl ?_
    refine A4 (A3 (A2 ?_))
    refine A1 rfl (B1 0 rfl B4 rfl B3 (A0 rfl) rfl) ?_
    refine A1 rfl (B0 0 rfl (A0 rfl) rfl B9 rfl) ?_
    refine A1 rfl (P4 rfl (A0 rfl) B6) ?_
    refine A4 ?_
    refine C4 (A0 rfl) ?_ ?_
    ·intro h48
     have k48 := O9 h48; try simp only [A8] at k48
     refine A2 ?_
     refine A1 rfl (B1 1 rfl B4 rfl B3 (A0 rfl) rfl) ?_
     refine A1 rfl (B0 0 rfl (A0 rfl) rfl B9 rfl) ?_
     refine A1 rfl (B1 1 rfl B4 rfl B3 (A0 rfl) rfl) ?_
     refine K4 2 rfl rfl rfl (A0 rfl) (A0 rfl) (K5 _ _) rfl B3 rfl ?_
     refine A4 (A2 ?_)
     refine A5 rfl ?_
     refine A1 rfl (F7 2 rfl (A0 rfl) rfl M8 F8 rfl) ?_
     refine A1 rfl (L0 rfl I4 F8 Tryz.zeroValue104 rfl rfl rfl rfl (D9 (A0 rfl) (E7 _) H7) rfl rfl) ?_
     refine M0 (by' := 88) 3 rfl rfl rfl rfl I4 Tryz.type104 rfl rfl rfl rfl rfl rfl (A0 rfl) (A0 rfl) rfl (by first | omega | (simp only [D3, A9, szR] at *; omega)) ?_
     intro v55_1
     refine B5 rfl ?_
     refine A4 (A2 ?_)
     refine A5 rfl ?_
     refine A1 rfl (Q3 rfl (A0 rfl) B6 (by first | omega | (simp only [D3, A9, szR] at *; omega))) ?_
     refine B5 rfl ?_
     refine A4 ?_
     refine l0 n cc l v t (n - 1) (x43.1) (l ++ [⟨x15.2.Kind, z.Txn, t + (1 + x18.2), x15.2.Lead, x15.2.Reads, x15.2.Writes, x15.2.Yes⟩]) (v55_1) (t + (1 + x18.2)) ?_ ?_ (Le.trans (H4 [0, 1, 0, 0] rfl) (L7 2 (by (rw [List.map_append]; rfl)) ⟨rfl, rfl, rfl, rfl, rfl, trivial⟩))
     ·exact ⟨⟨by omega, by rw [I5]; simp; omega⟩, by omega, ⟨by omega, by omega⟩, fun q hq => by (rcases List.mem_append.1 hq with hq | hq; (exact hinv.2.2.2 q hq); (rw [List.mem_singleton.1 hq]; exact ⟨ok15.2.1, by first | (dsimp only; omega) | omega, ok15.2.2.1, ok15.2.2.2.1⟩))⟩
     omega
    intro h48
    have k48 := O8 h48; try simp only [A8] at k48
    refine C7 (A2 ?_)
    refine A5 rfl ?_
    refine A1 rfl (F7 2 rfl (A0 rfl) rfl M8 F8 rfl) ?_
    refine A1 rfl (L0 rfl I4 F8 Tryz.zeroValue104 rfl rfl rfl rfl (D9 (A0 rfl) (E7 _) H7) rfl rfl) ?_
    refine M0 (by' := 88) 3 rfl rfl rfl rfl I4 Tryz.type104 rfl rfl rfl rfl rfl rfl (A0 rfl) (A0 rfl) rfl (by first | omega | (simp only [D3, A9, szR] at *; omega)) ?_
    intro v55_2
    refine B5 rfl ?_
    refine A4 (A2 ?_)
    refine A5 rfl ?_
    refine A1 rfl (Q3 rfl (A0 rfl) B6 (by first | omega | (simp only [D3, A9, szR] at *; omega))) ?_
    refine B5 rfl ?_
    refine A4 ?_
    refine l0 n cc l v t (n - 1) (x43.1) (l ++ [⟨x15.2.Kind, x15.2.Txn, t + (1 + x18.2), x15.2.Lead, x15.2.Reads, x15.2.Writes, x15.2.Yes⟩]) (v55_2) (t + (1 + x18.2)) ?_ ?_ (Le.trans (H4 [0, 1, 0, 0] rfl) (L7 2 (by (rw [List.map_append]; rfl)) ⟨rfl, rfl, rfl, rfl, rfl, trivial⟩))
    ·exact ⟨⟨by omega, by rw [I5]; simp; omega⟩, by omega, ⟨by omega, by omega⟩, fun q hq => by (rcases List.mem_append.1 hq with hq | hq; (exact hinv.2.2.2 q hq); (rw [List.mem_singleton.1 hq]; exact ⟨ok15.2.1, by first | (dsimp only; omega) | omega, ok15.2.2.1, ok15.2.2.2.1⟩))⟩
    omega
   intro h38
   refine C7 (A2 ?_)
   refine A5 rfl ?_
   refine A1 rfl (F7 1 rfl (A0 rfl) rfl M8 F8 rfl) ?_
   refine A1 rfl (L0 rfl I4 F8 Tryz.zeroValue104 rfl rfl rfl rfl (D9 (A0 rfl) (E7 _) H7) rfl rfl) ?_
   refine M0 (by' := 88) 2 rfl rfl rfl rfl I4 Tryz.type104 rfl rfl rfl rfl rfl rfl (A0 rfl) (A0 rfl) rfl (by first | omega | (simp only [D3, A9, szR] at *; omega)) ?_
   intro v55_3
   refine B5 rfl ?_
   refine A4 (A2 ?_)
   refine A5 rfl ?_
   refine A1 rfl (Q3 rfl (A0 rfl) B6 (by first | omega | (simp only [D3, A9, szR] at *; omega))) ?_
   refine B5 rfl ?_
   refine A4 ?_
   refine l0 n cc l v t (n - 1) (x18.1) (l ++ [⟨x15.2.Kind, x15.2.Txn, t + (1 + x18.2), x15.2.Lead, x15.2.Reads, x15.2.Writes, x15.2.Yes⟩]) (v55_3) (t + (1 + x18.2)) ?_ ?_ (Le.trans (H4 [1, 0, 0] rfl) (L7 1 (by (rw [List.map_append]; rfl)) ⟨rfl, rfl, rfl, rfl, rfl, trivial⟩))
   ·exact ⟨⟨by omega, by rw [I5]; simp; omega⟩, by omega, ⟨by omega, by omega⟩, fun q hq => by (rcases List.mem_append.1 hq with hq | hq; (exact hinv.2.2.2 q hq); (rw [List.mem_singleton.1 hq]; exact ⟨ok15.2.1, by first | (dsimp only; omega) | omega, ok15.2.2.1, ok15.2.2.2.1⟩))⟩
   omega
  intro h23
  have k23 := of_decide_eq_false h23; try simp only [A8] at k23
  refine C7 (A3 (A3 (A2 ?_)))
  refine A1 rfl (B1 0 rfl B4 rfl B3 (A0 rfl) rfl) ?_
  refine A1 rfl (B0 1 rfl (A0 rfl) rfl B9 rfl) ?_
  refine A1 rfl (P4 rfl (A0 rfl) B6) ?_
  refine A5 rfl ?_
  refine J5 rfl (fun hc => B1 0 rfl B4 rfl B3 (A0 rfl) rfl) ?_
  refine J5 rfl (fun hc => B0 1 rfl (A6 rfl hc) rfl B9 rfl) ?_
  refine J5 rfl (fun hc => P4 rfl (A6 rfl hc) B6) ?_
  refine A1 rfl (T5 rfl (A0 rfl) (F6 rfl)) ?_
  refine A5 rfl ?_
  refine C9 rfl (fun hc => C1 rfl (A0 rfl)) ?_
  refine C9 rfl (fun hc => W1 2 rfl I4 (A6 rfl hc) rfl) ?_
  refine C9 rfl (fun hc => O5 rfl (A6 rfl hc) B6) ?_
  refine A1 rfl (H6 rfl (A0 rfl) (F6 rfl)) ?_
  refine A4 ?_
  refine C4 (A0 rfl) ?_ ?_
  ·intro h38
   have hll : 0 < l.length := by (cases hm : l with | nil => (rw [hm] at h38; simp at h38) | cons y q => simp)
   refine A3 (A2 ?_)
   refine A5 rfl ?_
   refine A5 rfl ?_
   refine A5 rfl ?_
   refine A1 rfl (W1 2 rfl I4 (A0 rfl) rfl) ?_
   refine J7 [0] rfl rfl rfl rfl Tryz.call76 rfl (S4 _ _ hcode _ _ (by simp only [A8]; omega) (by omega)) (A7 (A0 rfl) (A7 (A0 rfl) C6)) rfl ?_
   intro x43 ok43
   have hix : x43.2.toNat < l.length := by (have h9 := ok43.2; simp only [A8] at h9; omega)
   obtain ⟨z, hz⟩ := get_some hix
   have hrow : (l.map TRec.cs)[x43.2.toNat]? = some z.cs := by (rw [List.getElem?_map, hz]; rfl)
   refine A1 rfl (W5 2 rfl I4 F8 (A0 rfl) rfl (A0 rfl) (by omega) (by first | omega | (simp only [A8]; omega))) ?_
   refine A1 rfl (d7 2 rfl (A0 rfl) rfl M8 F8 hrow (by decide)) ?_
   refine F9 rfl rfl rfl rfl Tryz.zeroValue104 rfl ?_
   intro b7
   refine D6 0 rfl rfl rfl (A0 rfl) (A0 rfl) (E7 _) rfl F8 rfl ?_
   refine A4 (A3 (A2 ?_))
   refine A1 rfl (B1 0 rfl B4 rfl B3 (A0 rfl) rfl) ?_
   refine A1 rfl (B0 0 rfl (A0 rfl) rfl B9 rfl) ?_
   refine A1 rfl (P4 rfl (A0 rfl) B6) ?_
   refine A4 ?_
   refine C4 (A0 rfl) ?_ ?_
   ·intro h48
    have k48 := O9 h48; try simp only [A8] at k48
    refine A2 ?_
    refine A1 rfl (B1 1 rfl B4 rfl B3 (A0 rfl) rfl) ?_
    refine A1 rfl (B0 0 rfl (A0 rfl) rfl B9 rfl) ?_
    refine A1 rfl (B1 1 rfl B4 rfl B3 (A0 rfl) rfl) ?_
    refine K4 2 rfl rfl rfl (A0 rfl) (A0 rfl) (K5 _ _) rfl B3 rfl ?_
    refine A4 (A2 ?_)
    refine A5 rfl ?_
    refine A1 rfl (F7 2 rfl (A0 rfl) rfl M8 F8 rfl) ?_
    refine A1 rfl (L0 rfl I4 F8 Tryz.zeroValue104 rfl rfl rfl rfl (D9 (A0 rfl) (E7 _) H7) rfl rfl) ?_
    refine M0 (by' := 88) 3 rfl rfl rfl rfl I4 Tryz.type104 rfl rfl rfl rfl rfl rfl (A0 rfl) (A0 rfl) rfl (by first | omega | (simp only [D3, A9, szR] at *; omega)) ?_
    intro v55_4
    refine B5 rfl ?_
    refine A4 (A2 ?_)
    refine A5 rfl ?_
    refine A1 rfl (Q3 rfl (A0 rfl) B6 (by first | omega | (simp only [D3, A9, szR] at *; omega))) ?_
    refine B5 rfl ?_
    refine A4 ?_
    refine l0 n cc l v t (n - 1) (x43.1) (l ++ [⟨x15.2.Kind, z.Txn, x15.2.Time, x15.2.Lead, x15.2.Reads, x15.2.Writes, x15.2.Yes⟩]) (v55_4) (t + (1 + x18.2)) ?_ ?_ (Le.trans (H4 [0, 1, 0, 0] rfl) (L7 2 (by (rw [List.map_append]; rfl)) ⟨rfl, rfl, rfl, rfl, rfl, trivial⟩))
    ·exact ⟨⟨by omega, by rw [I5]; simp; omega⟩, by omega, ⟨by omega, by omega⟩, fun q hq => by (rcases List.mem_append.1 hq with hq | hq; (exact hinv.2.2.2 q hq); (rw [List.mem_singleton.1 hq]; exact ⟨ok15.2.1, by first | (dsimp only; omega) | omega, ok15.2.2.1, ok15.2.2.2.1⟩))⟩
    omega
   intro h48
   have k48 := O8 h48; try simp only [A8] at k48
   refine C7 (A2 ?_)
   refine A5 rfl ?_
   refine A1 rfl (F7 2 rfl (A0 rfl) rfl M8 F8 rfl) ?_
   refine A1 rfl (L0 rfl I4 F8 Tryz.zeroValue104 rfl rfl rfl rfl (D9 (A0 rfl) (E7 _) H7) rfl rfl) ?_
   refine M0 (by' := 88) 3 rfl rfl rfl rfl I4 Tryz.type104 rfl rfl rfl rfl rfl rfl (A0 rfl) (A0 rfl) rfl (by first | omega | (simp only [D3, A9, szR] at *; omega)) ?_
   intro v55_5
   refine B5 rfl ?_
   refine A4 (A2 ?_)
   refine A5 rfl ?_
   refine A1 rfl (Q3 rfl (A0 rfl) B6 (by first | omega | (simp only [D3, A9, szR] at *; omega))) ?_
   refine B5 rfl ?_
   refine A4 ?_
   refine l0 n cc l v t (n - 1) (x43.1) (l ++ [⟨x15.2.Kind, x15.2.Txn, x15.2.Time, x15.2.Lead, x15.2.Reads, x15.2.Writes, x15.2.Yes⟩]) (v55_5) (t + (1 + x18.2)) ?_ ?_ (Le.trans (H4 [0, 1, 0, 0] rfl) (L7 2 (by (rw [List.map_append]; rfl)) ⟨rfl, rfl, rfl, rfl, rfl, trivial⟩))
   ·exact ⟨⟨by omega, by rw [I5]; simp; omega⟩, by omega, ⟨by omega, by omega⟩, fun q hq => by (rcases List.mem_append.1 hq with hq | hq; (exact hinv.2.2.2 q hq); (rw [List.mem_singleton.1 hq]; exact ⟨ok15.2.1, by first | (dsimp only; omega) | omega, ok15.2.2.1, ok15.2.2.2.1⟩))⟩
   omega
  intro h38
  refine C7 (A2 ?_)
  refine A5 rfl ?_
  refine A1 rfl (F7 1 rfl (A0 rfl) rfl M8 F8 rfl) ?_
  refine A1 rfl (L0 rfl I4 F8 Tryz.zeroValue104 rfl rfl rfl rfl (D9 (A0 rfl) (E7 _) H7) rfl rfl) ?_
  refine M0 (by' := 88) 2 rfl rfl rfl rfl I4 Tryz.type104 rfl rfl rfl rfl rfl rfl (A0 rfl) (A0 rfl) rfl (by first | omega | (simp only [D3, A9, szR] at *; omega)) ?_
  intro v55_6
  refine B5 rfl ?_
  refine A4 (A2 ?_)
  refine A5 rfl ?_
  refine A1 rfl (Q3 rfl (A0 rfl) B6 (by first | omega | (simp only [D3, A9, szR] at *; omega))) ?_
  refine B5 rfl ?_
  refine A4 ?_
  refine l0 n cc l v t (n - 1) (x18.1) (l ++ [⟨x15.2.Kind, x15.2.Txn, x15.2.Time, x15.2.Lead, x15.2.Reads, x15.2.Writes, x15.2.Yes⟩]) (v55_6) (t + (1 + x18.2)) ?_ ?_ (Le.trans (H4 [1, 0, 0] rfl) (L7 1 (by (rw [List.map_append]; rfl)) ⟨rfl, rfl, rfl, rfl, rfl, trivial⟩))
  ·exact ⟨⟨by omega, by rw [I5]; simp; omega⟩, by omega, ⟨by omega, by omega⟩, fun q hq => by (rcases List.mem_append.1 hq with hq | hq; (exact hinv.2.2.2 q hq); (rw [List.mem_singleton.1 hq]; exact ⟨ok15.2.1, by first | (dsimp only; omega) | omega, ok15.2.2.1, ok15.2.2.2.1⟩))⟩
  omega
 intro h11
 have k11 := of_decide_eq_false h11; try simp only [A8] at k11
 refine G6 ?_
 refine A3 (A2 ?_)
 refine A5 rfl ?_
 refine B5 rfl ?_
 refine A4 ?_
 refine C5 ?_
 (refine N5 [0, 0] ((cc, l, v)) ?_ rfl (by first | (dsimp only; rfl) | rfl) (S1 rfl (C3 rfl (by rfl))); exact ⟨show cc.p ≤ _ by omega, show l.length ≤ 11 by omega, hinv.2.2.2⟩)
theorem An1 (b : Nat) (code : List Int) (hcode : ByteL code) (c : TCur) (hp : c.p ≤ 900000) : GSpec Tryz.prog 168 [AV.ptr b 0] [.box b 114 (curC code c)] (fun x : TCur × TState × Value × Value => x.1.p ≤ c.p + 1300 ∧ SO x.2.1 ∧ SB 33 x.2.1 ∧ x.2.1.size ≤ 33044) (fun x => .box b 114 (curC code x.1) :: TState.ow x.2.1 x.2.2) (fun x => AV.agg (TState.ocs x.2.1 x.2.2)) := by
 refine J9 Tryz.func168 rfl Tryz.ntmps168 rfl ?_
 refine A3 (A2 ?_)
 refine F9 rfl rfl rfl rfl Tryz.zeroValue43 rfl ?_
 intro b2
 refine A4 (A3 (A2 ?_))
 refine A5 rfl ?_
 refine J7 [1] rfl rfl rfl rfl Tryz.call210 rfl (Aq8 _ _ hcode _ (by omega)) (A7 (A0 rfl) C6) rfl ?_
 intro x7 ok7
 refine AC5 (Y8 [1] 7 rfl rfl (N1 (G4 (i := 0) rfl) J4) (T9 0 rfl rfl R5)) ?_
 refine J7 [] rfl rfl rfl rfl Tryz.call107 rfl (ofK_own x7.2.1 (by omega) (fun r hr => by have := (ok7.2.2 r hr).1; omega)) (A7 (A0 rfl) C6) rfl ?_
 intro x8 ok8
 refine A5 rfl ?_
 refine A1 rfl (H8 rfl (A0 rfl) rfl) ?_
 refine A1 rfl (H8 rfl (A0 rfl) rfl) ?_
 refine F9 rfl rfl rfl rfl Tryz.zeroValue43 rfl ?_
 intro b3
 refine D6 0 rfl rfl rfl (A0 rfl) (A0 rfl) (E7 _) rfl C2 rfl ?_
 refine B5 rfl ?_
 refine A4 (A3 ?_)
 refine O1 (by first | (simp only [TState.ow, TState.ocs, pick, S9, S6, S2, R9, S3, List.nil_append, T0, S7, List.append_nil, R6, List.take_zero, S0, List.drop_zero]; exact rfl) | exact rfl) ?_
 refine A2 ?_
 refine A1 rfl (F7 0 rfl (A0 rfl) rfl E2 C2 rfl) ?_
 refine D6 5 rfl rfl rfl (A0 rfl) (A0 rfl) (E7 _) rfl C2 rfl ?_
 refine A4 ?_
 refine C5 ?_
 (refine N5 [4, 1, 1] ((x7.1, stFrom zState x7.2.1, x8.1, x8.2.1)) ?_ rfl (by first | (dsimp only; rfl) | rfl) (S1 rfl (L1 (ys := _) 5 rfl rfl E2 C2 rfl)); exact ⟨ok7.1, AO5 Aa0, At7 ⟨⟨by decide, by decide⟩, fun h hm => by cases hm⟩ (fun r hr => ⟨(ok7.2.2 r hr).2.1, (ok7.2.2 r hr).2.2⟩), Nat.le_trans (AI1 _) (st_phi ok7.2.1 fun r hr => (ok7.2.2 r hr).1)⟩)
end Go.Proofs.YtkegepoihkhihaaGreat

namespace Go.Proofs.YtkegepoihkhihaaGreat
open Go Go.AV Go.M
attribute [local irreducible] OpW OpA OpS AWP FSpec ESpec GSpec OpE RetOk RetOkG RvDen Le Ev GuardIs SrcIs
end Go.Proofs.YtkegepoihkhihaaGreat

namespace Go.Proofs.YtkegepoihkhihaaGreat
open Go Go.AV Go.M
attribute [local irreducible] OpW OpA OpS AWP FSpec ESpec GSpec OpE RetOk RetOkG RvDen Le Ev GuardIs SrcIs
end Go.Proofs.YtkegepoihkhihaaGreat

namespace Go.Proofs.YtkegepoihkhihaaGreat
open Go Go.AV Go.M
attribute [local irreducible] OpW OpA OpS AWP FSpec ESpec GSpec OpE RetOk RetOkG RvDen Le Ev GuardIs SrcIs Int.tmod IntKind.wrap bandI
end Go.Proofs.YtkegepoihkhihaaGreat

set_option maxHeartbeats 1000000
namespace Go.Proofs.YtkegepoihkhihaaGreat
open Go Go.AV Go.M
attribute [local irreducible] OpW OpA OpS AWP FSpec ESpec GSpec OpE RetOk RetOkG RvDen Le Ev GuardIs SrcIs
end Go.Proofs.YtkegepoihkhihaaGreat

namespace Go.Proofs.YtkegepoihkhihaaGreat
open Go Go.AV Go.M
attribute [local irreducible] OpW OpA OpS AWP FSpec ESpec GSpec OpE RetOk RetOkG RvDen Le Ev GuardIs SrcIs
end Go.Proofs.YtkegepoihkhihaaGreat

namespace Go.Proofs.YtkegepoihkhihaaGreat
open Go Go.Proofs Go.RowKit Go.Shelf Go.M
attribute [local go_sem] Oper.semAt_some
end Go.Proofs.YtkegepoihkhihaaGreat

namespace Go.Proofs.YtkegepoihkhihaaGreat
open Go Go.Proofs Go.RowKit Go.Shelf Go.M
attribute [local go_sem] Oper.semAt_some
end Go.Proofs.YtkegepoihkhihaaGreat

namespace Go.Proofs.YtkegepoihkhihaaGreat
open Go Go.AV Go.M
attribute [local irreducible] OpW OpA OpS AWP FSpec ESpec RetOk RvDen Le Ev GuardIs
end Go.Proofs.YtkegepoihkhihaaGreat

namespace Go.Proofs.YtkegepoihkhihaaGreat
open Go Go.AV Go.M
attribute [local irreducible] OpW OpA OpS AWP FSpec ESpec GSpec OpE RetOk RetOkG RvDen Le Ev GuardIs SrcIs Int.tmod IntKind.wrap bandI
end Go.Proofs.YtkegepoihkhihaaGreat

set_option maxHeartbeats 2000000
namespace Go.M
open Go.AV
theorem told_row {l : List TTold} (h : 0 < l.length) : ∃ t, l[0]? = some t ∧ (l.map TTold.cs)[(0 : Int).toNat]? = some t.cs := by
  obtain ⟨t, ht⟩ := get_some h
  exact ⟨t, ht, by show (l.map TTold.cs)[0]? = _; rw [List.getElem?_map, ht]; rfl⟩
end Go.M
namespace Go.Proofs.YtkegepoihkhihaaGreat
open Go Go.AV Go.M
attribute [local irreducible] OpW OpA OpS AWP FSpec ESpec GSpec OpE RetOk RetOkG RvDen Le Ev GuardIs SrcIs SrcE Int.tmod Int.tdiv IntKind.wrap bandI
theorem AW6 (b : Nat) (code : List Int) (hcode : ByteL code) (c : TCur) (hp : c.p ≤ 800000) : GSpec Tryz.prog 115 [AV.ptr b 0] [.box b 114 (curC code c)] (fun x : TCur × TState => x.1.p ≤ c.p + 1310 ∧ x.2.size ≤ 33045 ∧ SB 100001 x.2) (fun x => [.box b 114 (curC code x.1)]) (fun x => AV.agg x.2.cs) := by
 refine J9 Tryz.func115 rfl Tryz.ntmps115 rfl ?_
 refine A3 (A2 ?_)
 refine F9 rfl rfl rfl rfl Tryz.zeroValue43 rfl ?_
 intro b2
 refine A4 (A3 (A2 ?_))
 refine A5 rfl ?_
 refine J7 [1] rfl rfl rfl rfl Tryz.call168 rfl (An1 _ _ hcode _ (by omega)) (A7 (A0 rfl) C6) rfl ?_
 intro x5 ok5
 obtain ⟨hp5, hso, ⟨hf5, hl5⟩, hs5⟩ := ok5
 obtain ⟨q1, q2, q3, q4, q5⟩ := V8 hs5
 refine F9 rfl rfl rfl rfl Tryz.zeroValue43 rfl ?_
 intro b3
 refine D6 0 rfl rfl rfl (A0 rfl) (A0 rfl) (E7 _) rfl C2 rfl ?_
 refine A4 (A3 (A3 ?_))
 refine O1 (by first | (simp only [TState.ow, TState.ocs, pick, S9, S6, S2, R9, S3, List.nil_append, T0, S7, List.append_nil, R6, List.take_zero, S0, List.drop_zero]; exact rfl) | exact rfl) ?_
 refine A2 ?_
 refine A5 rfl ?_
 refine J7 [1] rfl rfl rfl rfl Tryz.call76 rfl (S4 _ _ hcode _ _ (by omega) (by omega)) (A7 (A0 rfl) (A7 B6 C6)) rfl ?_
 intro x7 ok7
 refine A4 (C8 (A3 (A2 ?_)))
 refine A1 rfl (P4 rfl (A0 rfl) B6) ?_
 refine B5 rfl ?_
 refine A4 ?_
 refine C4 (A0 rfl) ?_ ?_
 ·intro h8
  have k8 := O9 h8; try simp only [A8] at k8
  refine A2 ?_
  refine A5 rfl ?_
  refine A1 rfl (L0 rfl T6 B3 Tryz.zeroValue3 rfl rfl rfl rfl (D9 B6 (K5 _ _) (D9 B6 (K5 _ _) (D9 B6 (K5 _ _) (D9 B6 (K5 _ _) H7)))) rfl rfl) ?_
  refine J7 [0] rfl rfl rfl rfl Tryz.call74 rfl (k5 _ _ hcode _ ([(0), (1), (100000), (100001)] : List Int) (by decide) (by omega)) (A7 (A0 rfl) (A7 (A0 rfl) C6)) rfl ?_
  intro x12 ok12
  refine A1 rfl (B1 0 rfl C0 rfl B3 (A0 rfl) rfl) ?_
  refine K4 1 rfl rfl rfl (A0 rfl) (A0 rfl) (K5 _ _) rfl B3 rfl ?_
  refine A4 (A3 ?_)
  refine O1 (by first | (simp only [TState.ow, TState.ocs, pick, S9, S6, S2, R9, S3, List.nil_append, T0, S7, List.append_nil, R6, List.take_zero, S0, List.drop_zero]; exact rfl) | exact rfl) ?_
  refine A2 ?_
  refine A1 rfl (F7 1 rfl (A0 rfl) rfl E2 C2 rfl) ?_
  refine AC5 (Y8 [2, 2] 42 rfl rfl (j6 (H2 M4 (H2 M4 (H2 (N1 (G4 (i := 0) rfl) J4) (H2 (N1 (G4 (i := 1) rfl) J4) V4))))) (T9 0 rfl rfl R5)) ?_
  refine D6 2 rfl rfl rfl (A0 rfl) (A0 rfl) (E7 _) rfl C2 rfl ?_
  refine A4 ?_
  refine C5 ?_
  (refine N5 [0] ((x12.1, ⟨x12.2, x5.2.1.Cells, x5.2.1.Held, x5.2.1.Told⟩)) ?_ rfl (by first | (dsimp only; rfl) | rfl) (S1 rfl (L1 (ys := _) 2 rfl rfl E2 C2 (by first | rfl | (dsimp only [TState.cs]; rw [List.map_append]; rfl)))); (have hsz9 : sizeL TCell.size x5.2.1.Cells + sizeL THeld.size x5.2.1.Held + x5.2.1.Told.length ≤ 33044 := hs5; first | exact ⟨by dsimp only; omega, by show sizeL TCell.size _ + sizeL THeld.size _ + _ ≤ 33045; dsimp only; omega, ⟨⟨by dsimp only; omega, by dsimp only; omega⟩, hl5⟩⟩ | exact ⟨by dsimp only; omega, by show sizeL TCell.size _ + sizeL THeld.size _ + _ ≤ 33045; dsimp only; rw [I5]; simp only [J3, L6]; omega, ⟨⟨by dsimp only; omega, by dsimp only; omega⟩, hl5⟩⟩ | exact ⟨by dsimp only; omega, by show sizeL TCell.size _ + sizeL THeld.size _ + _ ≤ 33045; dsimp only; exact Nat.le_trans hsz9 (by decide), ⟨⟨by have h9 := ok12.2; simp at h9; dsimp only; omega, by have h9 := ok12.2; simp at h9; dsimp only; omega⟩, hl5⟩⟩ | exact ⟨by dsimp only; omega, by show sizeL TCell.size _ + sizeL THeld.size _ + _ ≤ 33045; (rw [hh0, N7] at hsz9; dsimp only; rw [N7]; exact Nat.le_trans hsz9 (by decide)), ⟨⟨by dsimp only; omega, by dsimp only; omega⟩, fun k hk => by (rcases List.mem_cons.1 hk with rfl | hk; (exact hl5 h0 (by rw [hh0]; exact List.mem_cons_self)); (exact hl5 k (by rw [hh0]; exact List.mem_cons_of_mem _ hk)))⟩⟩))
 intro h8
 have k8 := O8 h8; try simp only [A8] at k8
 refine A3 (A2 ?_)
 refine A1 rfl (P4 rfl (A0 rfl) B6) ?_
 refine B5 rfl ?_
 refine A4 ?_
 refine C4 (A0 rfl) ?_ ?_
 ·intro h14
  have k14 := O9 h14; try simp only [A8] at k14
  refine A3 (A2 ?_)
  refine A1 rfl (B1 2 rfl C0 rfl G2 (A0 rfl) rfl) ?_
  refine A1 rfl (B0 1 rfl (A0 rfl) rfl L3 rfl) ?_
  refine A1 rfl (W1 2 rfl E1 (A0 rfl) rfl) ?_
  refine A1 rfl (O5 rfl (A0 rfl) B6) ?_
  refine A4 ?_
  refine C4 (A0 rfl) ?_ ?_
  ·intro h19
   have k19 := of_decide_eq_true h19; try simp only [A8] at k19
   obtain ⟨h0, hs0, hh0⟩ : ∃ h0 hs0, x5.2.1.Held = h0 :: hs0 := by (cases hm : x5.2.1.Held with | nil => (rw [hm] at h19; simp at h19) | cons y q => exact ⟨y, q, rfl⟩)
   have hA : ([] : List (List AV)).length = (0 : Int).toNat := rfl
   rw [show x5.2.1.Held.map THeld.cs = [] ++ h0.cs :: hs0.map THeld.cs from by rw [hh0]; rfl]
   refine AWP.le (H4 [1, 1] rfl) ?_
   refine U4 _ [(0, false), (1, false), (2, false), (3, false), (4, true)] (by kernel_rfl) (by kernel_rfl) rfl (W8 2) ?_
   refine G1 rfl rfl rfl (fun ext => B1 2 rfl C0 rfl G2 (A0 rfl) rfl) ?_
   refine G1 rfl rfl rfl (fun ext => B0 0 rfl (A0 rfl) rfl L3 rfl) ?_
   refine G1 rfl rfl rfl (fun ext => C1 rfl (A0 rfl)) ?_
   refine G1 rfl rfl rfl (fun ext => L0 rfl T6 B3 Tryz.zeroValue3 rfl rfl rfl rfl (D9 B6 (K5 _ _) (D9 B6 (K5 _ _) (D9 B6 (K5 _ _) H7))) rfl rfl) ?_
   refine U2 rfl rfl rfl (n4 [2] rfl Tryz.call74 rfl (k5 _ _ hcode _ ([(0), (1), (100)] : List Int) (by decide) (by omega)) (A7 (A0 rfl) (A7 (A0 rfl) C6)) rfl) (fun a _ => (by first | exact F2 rfl | exact F2 (List.append_assoc _ _ _) | exact I7)) ?_
   intro x24 ok24
   refine j7 ?_
   refine A1 rfl (W5 1 rfl E1 D4 (A0 rfl) rfl B6 (by omega) (by simp)) ?_
   refine A1 rfl (AK6 1 rfl F1 rfl B3 (A0 rfl) rfl rfl (AF4 hA)) ?_
   refine AU9 1 rfl rfl rfl (A0 rfl) (A0 rfl) (K5 _ _) rfl B3 hA rfl ?_
   refine A4 (A3 ?_)
   refine O1 (by first | (simp only [TState.ow, TState.ocs, pick, S9, S6, S2, R9, S3, List.nil_append, T0, S7, List.append_nil, R6, List.take_zero, S0, List.drop_zero]; exact rfl) | exact rfl) ?_
   refine A2 ?_
   refine A1 rfl (F7 0 rfl (A0 rfl) rfl E2 C2 rfl) ?_
   refine AC5 (Y8 [1, 1] 42 rfl rfl (j6 (H2 M4 (H2 M4 (H2 (N1 (G4 (i := 0) rfl) J4) (H2 (N1 (G4 (i := 1) rfl) J4) V4))))) (T9 2 rfl rfl R5)) ?_
   refine D6 1 rfl rfl rfl (A0 rfl) (A0 rfl) (E7 _) rfl C2 rfl ?_
   refine A4 ?_
   refine C5 ?_
   (refine N5 [2] ((x24.1, ⟨x5.2.1.Floor, x5.2.1.Cells, ⟨h0.Txn, x24.2, h0.Lead, h0.Reads, h0.Writes⟩ :: hs0, x5.2.1.Told⟩)) ?_ rfl (by first | (dsimp only; rfl) | rfl) (S1 rfl (L1 (ys := _) 1 rfl rfl E2 C2 (by first | rfl | (dsimp only [TState.cs]; rw [List.map_append]; rfl)))); (have hsz9 : sizeL TCell.size x5.2.1.Cells + sizeL THeld.size x5.2.1.Held + x5.2.1.Told.length ≤ 33044 := hs5; first | exact ⟨by dsimp only; omega, by show sizeL TCell.size _ + sizeL THeld.size _ + _ ≤ 33045; dsimp only; omega, ⟨⟨by dsimp only; omega, by dsimp only; omega⟩, hl5⟩⟩ | exact ⟨by dsimp only; omega, by show sizeL TCell.size _ + sizeL THeld.size _ + _ ≤ 33045; dsimp only; rw [I5]; simp only [J3, L6]; omega, ⟨⟨by dsimp only; omega, by dsimp only; omega⟩, hl5⟩⟩ | exact ⟨by dsimp only; omega, by show sizeL TCell.size _ + sizeL THeld.size _ + _ ≤ 33045; dsimp only; exact Nat.le_trans hsz9 (by decide), ⟨⟨by have h9 := ok12.2; simp at h9; dsimp only; omega, by have h9 := ok12.2; simp at h9; dsimp only; omega⟩, hl5⟩⟩ | exact ⟨by dsimp only; omega, by show sizeL TCell.size _ + sizeL THeld.size _ + _ ≤ 33045; (rw [hh0, N7] at hsz9; dsimp only; rw [N7]; exact Nat.le_trans hsz9 (by decide)), ⟨⟨by dsimp only; omega, by dsimp only; omega⟩, fun k hk => by (rcases List.mem_cons.1 hk with rfl | hk; (exact hl5 h0 (by rw [hh0]; exact List.mem_cons_self)); (exact hl5 k (by rw [hh0]; exact List.mem_cons_of_mem _ hk)))⟩⟩))
  intro h19
  have k19 := of_decide_eq_false h19; try simp only [A8] at k19
  refine C7 (A3 ?_)
  refine O1 (by first | (simp only [TState.ow, TState.ocs, pick, S9, S6, S2, R9, S3, List.nil_append, T0, S7, List.append_nil, R6, List.take_zero, S0, List.drop_zero]; exact rfl) | exact rfl) ?_
  refine A2 ?_
  refine A1 rfl (F7 1 rfl (A0 rfl) rfl E2 C2 rfl) ?_
  refine AC5 (Y8 [2, 2] 42 rfl rfl (j6 (H2 M4 (H2 M4 (H2 (N1 (G4 (i := 0) rfl) J4) (H2 (N1 (G4 (i := 1) rfl) J4) V4))))) (T9 0 rfl rfl R5)) ?_
  refine D6 2 rfl rfl rfl (A0 rfl) (A0 rfl) (E7 _) rfl C2 rfl ?_
  refine A4 ?_
  refine C5 ?_
  (refine N5 [0] ((x7.1, x5.2.1)) ?_ rfl (by first | (dsimp only; rfl) | rfl) (S1 rfl (L1 (ys := _) 2 rfl rfl E2 C2 (by first | rfl | (dsimp only [TState.cs]; rw [List.map_append]; rfl)))); (have hsz9 : sizeL TCell.size x5.2.1.Cells + sizeL THeld.size x5.2.1.Held + x5.2.1.Told.length ≤ 33044 := hs5; first | exact ⟨by dsimp only; omega, by show sizeL TCell.size _ + sizeL THeld.size _ + _ ≤ 33045; dsimp only; omega, ⟨⟨by dsimp only; omega, by dsimp only; omega⟩, hl5⟩⟩ | exact ⟨by dsimp only; omega, by show sizeL TCell.size _ + sizeL THeld.size _ + _ ≤ 33045; dsimp only; rw [I5]; simp only [J3, L6]; omega, ⟨⟨by dsimp only; omega, by dsimp only; omega⟩, hl5⟩⟩ | exact ⟨by dsimp only; omega, by show sizeL TCell.size _ + sizeL THeld.size _ + _ ≤ 33045; dsimp only; exact Nat.le_trans hsz9 (by decide), ⟨⟨by have h9 := ok12.2; simp at h9; dsimp only; omega, by have h9 := ok12.2; simp at h9; dsimp only; omega⟩, hl5⟩⟩ | exact ⟨by dsimp only; omega, by show sizeL TCell.size _ + sizeL THeld.size _ + _ ≤ 33045; (rw [hh0, N7] at hsz9; dsimp only; rw [N7]; exact Nat.le_trans hsz9 (by decide)), ⟨⟨by dsimp only; omega, by dsimp only; omega⟩, fun k hk => by (rcases List.mem_cons.1 hk with rfl | hk; (exact hl5 h0 (by rw [hh0]; exact List.mem_cons_self)); (exact hl5 k (by rw [hh0]; exact List.mem_cons_of_mem _ hk)))⟩⟩))
 intro h14
 have k14 := O8 h14; try simp only [A8] at k14
 refine A3 (A2 ?_)
 refine A1 rfl (P4 rfl (A0 rfl) B6) ?_
 refine B5 rfl ?_
 refine A4 ?_
 refine C4 (A0 rfl) ?_ ?_
 ·intro h27
  have k27 := O9 h27; try simp only [A8] at k27
  refine A3 (A2 ?_)
  refine A1 rfl (B1 3 rfl C0 rfl N2 (A0 rfl) rfl) ?_
  refine A1 rfl (B0 1 rfl (A0 rfl) rfl T7 rfl) ?_
  refine A1 rfl (W1 3 rfl I0 (A0 rfl) rfl) ?_
  refine A1 rfl (O5 rfl (A0 rfl) B6) ?_
  refine A4 ?_
  refine C4 (A0 rfl) ?_ ?_
  ·intro h32
   have k32 := of_decide_eq_true h32; try simp only [A8] at k32
   obtain ⟨t0, ht0, htrow⟩ := told_row (l := x5.2.1.Told) (by simpa using h32)
   refine X2 7 (by kernel_rfl) (by kernel_rfl) rfl ?_
   refine B2 rfl rfl (B1 3 rfl C0 rfl N2 (A0 rfl) rfl) ?_
   refine B2 rfl rfl (B0 1 rfl (A0 rfl) rfl T7 rfl) ?_
   refine B2 rfl rfl (B1 3 rfl C0 rfl N2 (A0 rfl) rfl) ?_
   refine B2 rfl rfl (B0 1 rfl (A0 rfl) rfl T7 rfl) ?_
   refine B2 rfl rfl (W5 3 rfl I0 K8 (A0 rfl) rfl B6 (by omega) (by have h9 := (List.getElem?_eq_some_iff.1 ht0).1; first | omega | (simp only [A8]; omega))) ?_
   refine B2 rfl rfl (d7 3 rfl (A0 rfl) rfl Z4 K8 htrow (by decide)) ?_
   refine B2 rfl rfl (L0 rfl I0 K8 Tryz.zeroValue144 rfl rfl rfl rfl (D9 (A0 rfl) (E7 _) H7) rfl rfl) ?_
   refine P1 ?_
   refine M0 (by' := 24) 3 rfl rfl rfl rfl I0 Tryz.type144 rfl rfl rfl rfl rfl rfl (A0 rfl) (A0 rfl) rfl (by first | omega | (simp only [D3, A9, szR] at *; omega)) ?_
   intro v40_1
   refine A1 rfl (B1 3 rfl C0 rfl N2 (A0 rfl) rfl) ?_
   refine W4 3 rfl fun one_v40_1 => ?_
   refine K4 1 rfl rfl rfl (A0 rfl) (A0 rfl) (V5 one_v40_1) rfl N2 rfl ?_
   refine A4 (A3 ?_)
   refine O1 (by first | (simp only [TState.ow, TState.ocs, pick, S9, S6, S2, R9, S3, List.nil_append, T0, S7, List.append_nil, R6, List.take_zero, S0, List.drop_zero]; exact rfl) | exact rfl) ?_
   refine A2 ?_
   refine A1 rfl (F7 1 rfl (A0 rfl) rfl E2 C2 rfl) ?_
   refine AC5 (Y8 [2, 2] 42 rfl rfl (j6 (H2 M4 (H2 M4 (H2 (N1 (G4 (i := 0) rfl) J4) (H2 (N1 (G4 (i := 1) rfl) J4) V4))))) (T9 0 rfl rfl R5)) ?_
   refine D6 2 rfl rfl rfl (A0 rfl) (A0 rfl) (E7 _) rfl C2 rfl ?_
   refine A4 ?_
   refine C5 ?_
   (refine N5 [0] ((x7.1, ⟨x5.2.1.Floor, x5.2.1.Cells, x5.2.1.Held, x5.2.1.Told ++ [t0]⟩)) ?_ rfl (by first | (dsimp only; rfl) | rfl) (S1 rfl (L1 (ys := _) 2 rfl rfl E2 C2 (by first | rfl | (dsimp only [TState.cs]; rw [List.map_append]; rfl)))); (have hsz9 : sizeL TCell.size x5.2.1.Cells + sizeL THeld.size x5.2.1.Held + x5.2.1.Told.length ≤ 33044 := hs5; first | exact ⟨by dsimp only; omega, by show sizeL TCell.size _ + sizeL THeld.size _ + _ ≤ 33045; dsimp only; omega, ⟨⟨by dsimp only; omega, by dsimp only; omega⟩, hl5⟩⟩ | exact ⟨by dsimp only; omega, by show sizeL TCell.size _ + sizeL THeld.size _ + _ ≤ 33045; dsimp only; rw [I5]; simp only [J3, L6]; omega, ⟨⟨by dsimp only; omega, by dsimp only; omega⟩, hl5⟩⟩ | exact ⟨by dsimp only; omega, by show sizeL TCell.size _ + sizeL THeld.size _ + _ ≤ 33045; dsimp only; exact Nat.le_trans hsz9 (by decide), ⟨⟨by have h9 := ok12.2; simp at h9; dsimp only; omega, by have h9 := ok12.2; simp at h9; dsimp only; omega⟩, hl5⟩⟩ | exact ⟨by dsimp only; omega, by show sizeL TCell.size _ + sizeL THeld.size _ + _ ≤ 33045; (rw [hh0, N7] at hsz9; dsimp only; rw [N7]; exact Nat.le_trans hsz9 (by decide)), ⟨⟨by dsimp only; omega, by dsimp only; omega⟩, fun k hk => by (rcases List.mem_cons.1 hk with rfl | hk; (exact hl5 h0 (by rw [hh0]; exact List.mem_cons_self)); (exact hl5 k (by rw [hh0]; exact List.mem_cons_of_mem _ hk)))⟩⟩))
  intro h32
  have k32 := of_decide_eq_false h32; try simp only [A8] at k32
  refine C7 (A3 ?_)
  refine O1 (by first | (simp only [TState.ow, TState.ocs, pick, S9, S6, S2, R9, S3, List.nil_append, T0, S7, List.append_nil, R6, List.take_zero, S0, List.drop_zero]; exact rfl) | exact rfl) ?_
  refine A2 ?_
  refine A1 rfl (F7 1 rfl (A0 rfl) rfl E2 C2 rfl) ?_
  refine AC5 (Y8 [2, 2] 42 rfl rfl (j6 (H2 M4 (H2 M4 (H2 (N1 (G4 (i := 0) rfl) J4) (H2 (N1 (G4 (i := 1) rfl) J4) V4))))) (T9 0 rfl rfl R5)) ?_
  refine D6 2 rfl rfl rfl (A0 rfl) (A0 rfl) (E7 _) rfl C2 rfl ?_
  refine A4 ?_
  refine C5 ?_
  (refine N5 [0] ((x7.1, x5.2.1)) ?_ rfl (by first | (dsimp only; rfl) | rfl) (S1 rfl (L1 (ys := _) 2 rfl rfl E2 C2 (by first | rfl | (dsimp only [TState.cs]; rw [List.map_append]; rfl)))); (have hsz9 : sizeL TCell.size x5.2.1.Cells + sizeL THeld.size x5.2.1.Held + x5.2.1.Told.length ≤ 33044 := hs5; first | exact ⟨by dsimp only; omega, by show sizeL TCell.size _ + sizeL THeld.size _ + _ ≤ 33045; dsimp only; omega, ⟨⟨by dsimp only; omega, by dsimp only; omega⟩, hl5⟩⟩ | exact ⟨by dsimp only; omega, by show sizeL TCell.size _ + sizeL THeld.size _ + _ ≤ 33045; dsimp only; rw [I5]; simp only [J3, L6]; omega, ⟨⟨by dsimp only; omega, by dsimp only; omega⟩, hl5⟩⟩ | exact ⟨by dsimp only; omega, by show sizeL TCell.size _ + sizeL THeld.size _ + _ ≤ 33045; dsimp only; exact Nat.le_trans hsz9 (by decide), ⟨⟨by have h9 := ok12.2; simp at h9; dsimp only; omega, by have h9 := ok12.2; simp at h9; dsimp only; omega⟩, hl5⟩⟩ | exact ⟨by dsimp only; omega, by show sizeL TCell.size _ + sizeL THeld.size _ + _ ≤ 33045; (rw [hh0, N7] at hsz9; dsimp only; rw [N7]; exact Nat.le_trans hsz9 (by decide)), ⟨⟨by dsimp only; omega, by dsimp only; omega⟩, fun k hk => by (rcases List.mem_cons.1 hk with rfl | hk; (exact hl5 h0 (by rw [hh0]; exact List.mem_cons_self)); (exact hl5 k (by rw [hh0]; exact List.mem_cons_of_mem _ hk)))⟩⟩))
 intro h27
 have k27 := O8 h27; try simp only [A8] at k27
 refine C7 (A3 ?_)
 refine O1 (by first | (simp only [TState.ow, TState.ocs, pick, S9, S6, S2, R9, S3, List.nil_append, T0, S7, List.append_nil, R6, List.take_zero, S0, List.drop_zero]; exact rfl) | exact rfl) ?_
 refine A2 ?_
 refine A1 rfl (F7 1 rfl (A0 rfl) rfl E2 C2 rfl) ?_
 refine AC5 (Y8 [2, 2] 42 rfl rfl (j6 (H2 M4 (H2 M4 (H2 (N1 (G4 (i := 0) rfl) J4) (H2 (N1 (G4 (i := 1) rfl) J4) V4))))) (T9 0 rfl rfl R5)) ?_
 refine D6 2 rfl rfl rfl (A0 rfl) (A0 rfl) (E7 _) rfl C2 rfl ?_
 refine A4 ?_
 refine C5 ?_
 (refine N5 [0] ((x7.1, x5.2.1)) ?_ rfl (by first | (dsimp only; rfl) | rfl) (S1 rfl (L1 (ys := _) 2 rfl rfl E2 C2 (by first | rfl | (dsimp only [TState.cs]; rw [List.map_append]; rfl)))); (have hsz9 : sizeL TCell.size x5.2.1.Cells + sizeL THeld.size x5.2.1.Held + x5.2.1.Told.length ≤ 33044 := hs5; first | exact ⟨by dsimp only; omega, by show sizeL TCell.size _ + sizeL THeld.size _ + _ ≤ 33045; dsimp only; omega, ⟨⟨by dsimp only; omega, by dsimp only; omega⟩, hl5⟩⟩ | exact ⟨by dsimp only; omega, by show sizeL TCell.size _ + sizeL THeld.size _ + _ ≤ 33045; dsimp only; rw [I5]; simp only [J3, L6]; omega, ⟨⟨by dsimp only; omega, by dsimp only; omega⟩, hl5⟩⟩ | exact ⟨by dsimp only; omega, by show sizeL TCell.size _ + sizeL THeld.size _ + _ ≤ 33045; dsimp only; exact Nat.le_trans hsz9 (by decide), ⟨⟨by have h9 := ok12.2; simp at h9; dsimp only; omega, by have h9 := ok12.2; simp at h9; dsimp only; omega⟩, hl5⟩⟩ | exact ⟨by dsimp only; omega, by show sizeL TCell.size _ + sizeL THeld.size _ + _ ≤ 33045; (rw [hh0, N7] at hsz9; dsimp only; rw [N7]; exact Nat.le_trans hsz9 (by decide)), ⟨⟨by dsimp only; omega, by dsimp only; omega⟩, fun k hk => by (rcases List.mem_cons.1 hk with rfl | hk; (exact hl5 h0 (by rw [hh0]; exact List.mem_cons_self)); (exact hl5 k (by rw [hh0]; exact List.mem_cons_of_mem _ hk)))⟩⟩))
end Go.Proofs.YtkegepoihkhihaaGreat

namespace Go.AV
open Go.ChangeShapes Go.WideShapes Go.ChangeAt Go.RowKit

def heapR (w : World) : RHeap := fun b => w.heap[b]?
theorem heapR_le (w : World) : RLe (heapR w) w := fun _ _ h => h
theorem Ax4 {w : World} {a : Addr} {v : Value} (h : w.cell? a = some v) : rcell (heapR w) a = some v := h

def Opens (P : Program) (t : TypeId) (α : Type) (enc : α → List AV) (ok : α → Prop) : Prop :=
  ∀ (H : Type) (en : TypeId × Value → H) (w : World) (base : Nat) (spare : Nat → Bool) (held : Bool) (fuel : Nat) (cs : List Value) (x : DataW H × List MemPlace),
    DataW.trod en P w base spare held fuel t cs = some x → ∃ a : α, ok a ∧ DenC (heapR w) cs (enc a)
theorem AT5 {R : RHeap} {v : Value} {x : AV} (h : x.den R v) (h1 : v.oneCell' = true) : DenC R [v] [x] :=
  ⟨rfl, fun i u y hu hy => by
    cases i with
    | zero => simp at hu hy; subst hu; subst hy; exact ⟨h, h1⟩
    | succ i => simp at hu⟩
section
variable {P : Program} {t e : TypeId}
theorem BA9 {k : IntKind} (ht : P.underlying t = some (.int k)) : Opens P t Int (fun n => [AV.ik k n]) (fun n => (Lit.int k n).wf = true) := fun H en w base spare held fuel cs x h => by
  obtain ⟨n, rfl, _, hw⟩ := DataW.trod_int ht h
  exact ⟨n, hw, AT5 rfl rfl⟩
theorem At8 {α : Type} {p : Nat → α → Prop} : ∀ n, (∀ i, i < n → ∃ a, p i a) → ∃ l : List α, l.length = n ∧ ∀ (i : Nat) (a : α), l[i]? = some a → p i a
  | 0, _ => ⟨[], rfl, fun i a h => by simp at h⟩
  | n + 1, h => by
    obtain ⟨l, h1, h2⟩ := At8 n fun i hi => h i (by omega)
    obtain ⟨a, ha⟩ := h n (by omega)
    refine ⟨l ++ [a], by simp [h1], fun i b hb => ?_⟩
    by_cases hi : i < l.length
    · rw [List.getElem?_append_left hi] at hb; exact h2 i b hb
    · rw [List.getElem?_append_right (by omega)] at hb
      have hin : i = n := by
        have := (List.getElem?_eq_some_iff.1 hb).1
        simp at this; omega
      subst hin
      rw [h1] at hb; simp at hb; subst hb; exact ha
theorem Aq9 {α : Type} {enc : α → List AV} {ok : α → Prop} {sz : Nat} (ht : P.underlying t = some (.slice e)) (hc : P.cellsOf e = sz) (h : Opens P e α enc ok) (hl : ∀ a, (enc a).length = sz) :
    Opens P t (List α) (fun l => [AV.list sz (l.map enc)]) (fun l => ∀ a ∈ l, ok a) := fun H en w base spare held fuel cs x hx => by
  rcases DataW.trod_slice ht hx with ⟨rfl, _⟩ | ⟨a, len, cap, elems, rest, n, _, rfl, _, _, hlc, hcm, hel, hi, _, _⟩
  · exact ⟨[], by simp, AT5 ⟨none, 0, rfl, Nat.le_refl _, Nat.zero_le _, by simp, fun h => absurd rfl h⟩ rfl⟩
  · obtain ⟨l, h1, h2⟩ := At8 (p := fun i b => ok b ∧ ∃ cs', w.cells? base (a.add (i * sz)) sz = some cs' ∧ DenC (heapR w) cs' (enc b)) len fun i hil => by
      have := hi i hil
      rw [hc, List.getElem?_eq_getElem (by omega)] at this
      obtain ⟨cs', hcs, htr⟩ := Option.bind_eq_some_iff.1 this
      obtain ⟨b, hb, hd⟩ := h H en w base spare held n cs' _ htr
      exact ⟨b, hb, cs', hcs, hd⟩
    refine ⟨l, fun b hb => ?_, AT5 ⟨some a, cap, by rw [A8, h1], by rw [A8, h1]; exact hlc, hcm, fun ec he => ?_, fun _ => ⟨a, rfl, fun j y hy => ?_⟩⟩ rfl⟩
    · obtain ⟨i, hib⟩ := List.getElem?_of_mem hb
      exact (h2 i b hib).1
    · obtain ⟨b, _, rfl⟩ := List.mem_map.1 he
      exact hl b
    · have hun : ∀ ec ∈ l.map enc, ec.length = sz := fun ec he => by
        obtain ⟨b, _, rfl⟩ := List.mem_map.1 he
        exact hl b
      have hjl : j < l.length * sz := by
        have := (List.getElem?_eq_some_iff.1 hy).1
        rwa [c9 hun, A8] at this
      have hsz : 0 < sz := by
        rcases Nat.eq_zero_or_pos sz with h0 | h0
        · subst h0; omega
        · exact h0
      have hij : j / sz < l.length := Nat.div_lt_of_lt_mul (by rw [Nat.mul_comm]; exact hjl)
      have hkm : j % sz < sz := Nat.mod_lt _ hsz
      have hjj : j / sz * sz + j % sz = j := by rw [Nat.mul_comm]; exact Nat.div_add_mod j sz
      have hb : l[j / sz]? = some l[j / sz] := List.getElem?_eq_getElem hij
      obtain ⟨_, cs', hcs, hd⟩ := h2 _ _ hb
      obtain ⟨_, hcl, hat⟩ := World.cells?_some hcs
      have hk : (enc l[j / sz])[j % sz]? = some ((enc l[j / sz])[j % sz]'(by rw [hl]; exact hkm)) := List.getElem?_eq_getElem _
      have hyk := c8 hun (i := j / sz) (e := enc l[j / sz]) (by rw [List.getElem?_map, hb]; rfl) hk
      rw [hjj, hy] at hyk
      injection hyk with hyk
      have hv : cs'[j % sz]? = some (cs'[j % sz]'(by rw [hcl]; exact hkm)) := List.getElem?_eq_getElem _
      have hcell := hat (j % sz) hkm
      rw [hv, AF1, hjj] at hcell
      refine ⟨_, Ax4 hcell, ?_⟩
      have := hd.2 _ _ _ hv hk
      rw [hyk]; exact this
theorem arg_one {H : Type} {en : TypeId × Value → H} {W : World} {base : Nat} {spare : Nat → Bool} {held : Bool} {α : Type} {enc : α → AV} {ok : α → Prop} {v : Value} {d : DataW H} {p : List MemPlace}
    (h : Opens P t α (fun a => [enc a]) ok) (h1 : v.cells = #[v]) (hd : DataW.Trod en P W base spare held t v d p) : ∃ a, ok a ∧ (enc a).den (heapR W) v := by
  obtain ⟨fuel, hf⟩ := hd
  rw [h1] at hf
  obtain ⟨a, h2, h3⟩ := h H en W base spare held fuel _ _ hf
  exact ⟨a, h2, (h3.2 0 v _ rfl rfl).1⟩
theorem BB0 {f : FuncId} {xs : List AV} {b : Bool} {W : World} {vs : List Value} (h : FSpec P f xs (AV.bool b)) (hd : DenV (heapR W) vs xs) :
    Calls P f vs.toArray W fun e w' => e = .returned (.bool b) ∧ Below W.heap.size W w' :=
  (h (heapR W) W vs (heapR_le W) hd).mono fun e w' ⟨v, R', h1, h2, _, _, h5⟩ => ⟨by rw [h1]; exact congrArg Ending.returned h2, h5⟩
end
end Go.AV

namespace Go.AV
section
variable {P : Program} {G : Nat → Prop} {n : Nat} {own : List Own} {o : Oper} {E : EnvF}
end
end Go.AV

namespace Go.AV
open Go.RowKit (Below)
section
variable {P : Program} {G : Nat → Prop} {n : Nat} {own : List Own} {o : Oper} {E : EnvF}
end
end Go.AV

namespace Go.Proofs.YtkegepoihkhihaaGreat
open Go Go.AV Go.M
attribute [local irreducible] OpW OpA OpS AWP FSpec ESpec GSpec OpE RetOk RetOkG RvDen Le Ev GuardIs SrcIs SrcE Int.tmod Int.tdiv IntKind.wrap bandI
end Go.Proofs.YtkegepoihkhihaaGreat

namespace Go.Proofs.YtkegepoihkhihaaGreat
open Go Go.Sort Go.Shelf Go.RowKit
theorem An2 (x : Int) (W : World) : Calls Tryz.prog 159 #[.int .i64 x] W fun e w' => e = .returned (.bool false) ∧ w' = W := by
  go_enter Tryz.func159, Tryz.ntmps159
  go_wp2
  go_ret
  exact ⟨by simp, rfl⟩
theorem An3 (x : ByteArray) (W : World) : Calls Tryz.prog 160 #[.string x] W fun e w' => e = .returned (.bool false) ∧ w' = W := by
  go_enter Tryz.func160, Tryz.ntmps160
  go_wp2
  go_ret
  exact ⟨by simp, rfl⟩
set_option maxHeartbeats 1000000 in
theorem AN2 (x y : Int) (W : World) : Calls Tryz.prog 104 #[.int .i64 x, .int .i64 y] W fun e w' => e = .returned (.int .i64 (M.cmpInt x y)) ∧ w' = W := by
  go_enter Tryz.func104, Tryz.ntmps104
  go_wp2_with (go_at_call 159; refine (An2 _ _).mono ?_; rintro e w' ⟨rfl, hw⟩; rw [hw])
  all_goals (go_ret; refine ⟨?_, rfl⟩; unfold M.cmpInt; (repeat' split) <;> first | rfl | (exfalso; omega))
set_option maxHeartbeats 1000000 in
theorem An4 (x y : List UInt8) (W : World) : Calls Tryz.prog 105 #[.string ⟨x.toArray⟩, .string ⟨y.toArray⟩] W fun e w' => e = .returned (.int .i64 (M.cmpStr x y)) ∧ w' = W := by
  have htri := M.bytesLess_tri y x
  go_enter Tryz.func105, Tryz.ntmps105
  go_wp2_with (go_at_call 160; refine (An3 _ _).mono ?_; rintro e w' ⟨rfl, hw⟩; rw [hw])
  all_goals (go_ret; refine ⟨?_, rfl⟩; unfold M.cmpStr; simp_all)
set_option maxHeartbeats 1000000 in
theorem Ar0 (x y z : Int) (b : Nat) (W : World) (h0 : W.cell? ⟨b, 0, none⟩ = some (.int .i64 x)) (h1 : W.cell? ⟨b, 1, none⟩ = some (.int .i64 y)) (h2 : W.cell? ⟨b, 2, none⟩ = some (.int .i64 z)) :
    Calls Tryz.prog 103 #[.slice (some ⟨b, 0, none⟩) 3 3] W fun e w' => e = .returned (.int .i64 (M.orInt [x, y, z])) ∧ w' = W := by
  have hc : ∀ k : Nat, k < 3 → W.cell? ⟨b, 0 + k, none⟩ = some (.int .i64 ([x, y, z].getD k 0)) := fun k hk => by
    rcases k with _ | _ | _ | k
    · exact h0
    · exact h1
    · exact h2
    · omega
  obtain ⟨l, hl⟩ : ∃ l, [x, y, z] = l := ⟨_, rfl⟩
  have hlen : l.length = 3 := by rw [← hl]; rfl
  rw [hl] at hc ⊢
  obtain ⟨r, hres⟩ : ∃ r, M.orInt l = r := ⟨_, rfl⟩
  rw [hres]
  go_enter Tryz.func103, Tryz.ntmps103
  go_wp2
  go_loop [8] (fun i => ∃ k : Nat, k ≤ 3 ∧ i = .int .i64 k ∧ r = M.orInt (l.drop k)) (fun i => 3 - (intOf i).toNat)
  case atStart => exact ⟨0, Nat.zero_le _, rfl, hres.symm⟩
  case round =>
    obtain ⟨k, hk, rfl, hr⟩ := hrel
    have hcell : (k : Int) < 3 → W.cell? ⟨b, k, none⟩ = some (.int .i64 (l.getD k 0)) := fun h => by have := hc k (by omega); rwa [Nat.zero_add] at this
    have hstep : (k : Int) < 3 → M.orInt (l.drop k) = if l.getD k 0 = 0 then M.orInt (l.drop (k + 1)) else l.getD k 0 := fun h => by
      have hk3 : k < l.length := by omega
      rw [AV.drop_some (List.getElem?_eq_getElem hk3), M.orInt, List.getD_eq_getElem?_getD, List.getElem?_eq_getElem hk3]; rfl
    have hend : ¬ (k : Int) < 3 → M.orInt (l.drop k) = 0 := fun h => by rw [List.drop_eq_nil_of_le (by omega)]; rfl
    generalize l.getD k 0 = v at hcell hstep
    clear hc h0 h1 h2
    obtain ⟨t, ht⟩ : ∃ t, M.orInt (l.drop k) = t := ⟨_, rfl⟩
    rw [ht] at hr hstep hend
    clear hres
    subst hr
    go_wp2
    · exfalso; have h9 : (v != 0) = true := by assumption
      simp_all
    · go_ret; exact ⟨rfl, rfl⟩
    case roundEnd =>
      have h8 : (k : Int) < 3 := by assumption
      have h9 : (v != 0) = false := by assumption
      have hv : v = 0 := by simpa using h9
      refine ⟨⟨k + 1, by omega, by simp, ?_⟩, by simp [intOf]; omega⟩
      rw [hstep h8, if_pos hv]
    · go_ret; exact ⟨rfl, rfl⟩
def encItem (x : Go.M.TFeedItem) : List Value := [.int .i64 x.Time, .int .i64 x.Group, .string ⟨x.Key.toArray⟩, .string ⟨x.Val.toArray⟩, .bool x.Gone]
theorem f9 (W : World) (vs : Array Value) (t : TypeId) (j : Nat) : (W.alloc (.cells vs t)).cell? ⟨W.heap.size, j, none⟩ = vs[j]? := by
  unfold World.cell?
  dsimp only
  rw [show (W.alloc (.cells vs t)).heap[W.heap.size]? = some (.cells vs t) from heap_alloc_new W _]
  rfl
theorem AI5 (W : World) (o : Obj) (k j : Nat) (h : k < W.heap.size) : (W.alloc o).cell? ⟨k, j, none⟩ = W.cell? ⟨k, j, none⟩ := by
  unfold World.cell?
  dsimp only
  rw [show (W.alloc o).heap[k]? = W.heap[k]? from Below.heap_alloc W o k h]
theorem l9 (W : World) (o : Obj) : (W.alloc o).heap.size = W.heap.size + 1 := by simp
theorem BB1 (W w2 : World) (a b : Go.M.TFeedItem) (t : TypeId) (h : (W.alloc (.cells #[.int .i64 a.Time, .int .i64 a.Group, .string ⟨a.Key.toArray⟩, .string ⟨a.Val.toArray⟩, .bool a.Gone] t)).alloc (.cells #[.int .i64 b.Time, .int .i64 b.Group, .string ⟨b.Key.toArray⟩, .string ⟨b.Val.toArray⟩, .bool b.Gone] t) = w2) :
    w2.cell? ⟨W.heap.size, 0, none⟩ = some (.int .i64 a.Time) ∧ w2.cell? ⟨W.heap.size, 1, none⟩ = some (.int .i64 a.Group) ∧ w2.cell? ⟨W.heap.size, 2, none⟩ = some (.string ⟨a.Key.toArray⟩) ∧
    w2.cell? ⟨W.heap.size + 1, 0, none⟩ = some (.int .i64 b.Time) ∧ w2.cell? ⟨W.heap.size + 1, 1, none⟩ = some (.int .i64 b.Group) ∧ w2.cell? ⟨W.heap.size + 1, 2, none⟩ = some (.string ⟨b.Key.toArray⟩) ∧
    ∃ os, w2 = grow W os := by
  subst h
  refine ⟨?_, ?_, ?_, ?_, ?_, ?_, _, by rw [alloc_eq_grow, alloc_eq_grow, grow_grow]⟩
  · rw [AI5 _ _ _ _ (by rw [l9]; omega), f9]; rfl
  · rw [AI5 _ _ _ _ (by rw [l9]; omega), f9]; rfl
  · rw [AI5 _ _ _ _ (by rw [l9]; omega), f9]; rfl
  · rw [← l9 W (.cells #[.int .i64 a.Time, .int .i64 a.Group, .string ⟨a.Key.toArray⟩, .string ⟨a.Val.toArray⟩, .bool a.Gone] t), f9]; rfl
  · rw [← l9 W (.cells #[.int .i64 a.Time, .int .i64 a.Group, .string ⟨a.Key.toArray⟩, .string ⟨a.Val.toArray⟩, .bool a.Gone] t), f9]; rfl
  · rw [← l9 W (.cells #[.int .i64 a.Time, .int .i64 a.Group, .string ⟨a.Key.toArray⟩, .string ⟨a.Val.toArray⟩, .bool a.Gone] t), f9]; rfl
theorem Ax5 (W : World) (x y z : Int) (t : TypeId) : (W.alloc (.cells #[.int .i64 x, .int .i64 y, .int .i64 z] t)).cell? ⟨W.heap.size, 0, none⟩ = some (.int .i64 x) ∧ (W.alloc (.cells #[.int .i64 x, .int .i64 y, .int .i64 z] t)).cell? ⟨W.heap.size, 1, none⟩ = some (.int .i64 y) ∧ (W.alloc (.cells #[.int .i64 x, .int .i64 y, .int .i64 z] t)).cell? ⟨W.heap.size, 2, none⟩ = some (.int .i64 z) := by
  refine ⟨?_, ?_, ?_⟩ <;> (rw [f9]; rfl)
set_option maxHeartbeats 4000000 in
theorem AN3 (a b : Go.M.TFeedItem) (W : World) : Calls Tryz.prog 64 #[.agg (encItem a).toArray, .agg (encItem b).toArray] W fun e w' => e = .returned (.int .i64 (M.compareItems a b)) ∧ ∃ q os', w' = grow (W.drewN q) os' := by
  obtain ⟨r, hr⟩ : ∃ r, M.compareItems a b = r := ⟨_, rfl⟩
  have h1 := AN2 a.Time b.Time
  have h2 := AN2 a.Group b.Group
  have h3 := An4 a.Key b.Key
  have hr2 : M.orInt [M.cmpInt a.Time b.Time, M.cmpInt a.Group b.Group, M.cmpStr a.Key b.Key] = r := hr
  rw [hr]
  clear hr
  generalize M.cmpInt a.Time b.Time = x at h1 hr2
  generalize M.cmpInt a.Group b.Group = y at h2 hr2
  generalize M.cmpStr a.Key b.Key = z at h3 hr2
  unfold encItem
  go_enter Tryz.func64, Tryz.ntmps64
  go_wp2
  generalize hw2 : (W.alloc (.cells #[.int .i64 a.Time, .int .i64 a.Group, .string ⟨a.Key.toArray⟩, .string ⟨a.Val.toArray⟩, .bool a.Gone] 63)).alloc (.cells #[.int .i64 b.Time, .int .i64 b.Group, .string ⟨b.Key.toArray⟩, .string ⟨b.Val.toArray⟩, .bool b.Gone] 63) = w2
  obtain ⟨fa0, fa1, fa2, fb0, fb1, fb2, hex⟩ := BB1 W w2 a b 63 hw2
  clear hw2
  refine wp_region_still_tail 15 (by kernel_rfl) (by kernel_rfl) ?_
  simp only [R6, List.take_zero, S0, List.drop_zero]
  have hex3 : ∃ os, w2.drew = grow (W.drewN 1) os := by
    obtain ⟨os, h⟩ := hex
    exact ⟨os, by rw [h]; rfl⟩
  clear hex
  repeat still_step
  still_call (h1 _)
  repeat still_step
  still_call (h2 _)
  repeat still_step
  still_call (h3 _)
  repeat still_step
  try refine wpStill_nil ?_
  clear fa0 fa1 fa2 fb0 fb1 fb2
  change wpList _ _ _ _ _ w2.drew
  generalize w2.drew = w3 at hex3 ⊢
  have h4 := Ax5 w3 x y z 3
  have h5 := Ar0 x y z w3.heap.size (w3.alloc (.cells #[.int .i64 x, .int .i64 y, .int .i64 z] 3)) h4.1 h4.2.1 h4.2.2
  rw [hr2] at h5
  clear h4 hr2 h1 h2 h3
  go_wp2_with (go_at_call 103; refine h5.mono ?_; rintro e w' ⟨rfl, hw⟩; rw [hw])
  go_ret
  obtain ⟨os, h⟩ := hex3
  exact ⟨rfl, 1, os ++ #[_], by rw [h, alloc_eq_grow, grow_grow]⟩
end Go.Proofs.YtkegepoihkhihaaGreat

set_option maxHeartbeats 1000000
namespace Go.Proofs.YtkegepoihkhihaaGreat
open Go Go.AV Go.M
attribute [local irreducible] OpW OpA OpS AWP FSpec ESpec GSpec OpE RetOk RetOkG RvDen Le Ev GuardIs SrcIs Int.tmod Int.tdiv IntKind.wrap
end Go.Proofs.YtkegepoihkhihaaGreat

namespace Go.M
open Go.AV
theorem AD7 (a b : TFeedItem) : l23Ahead a b = true ↔ a.Time < b.Time ∨ (a.Time = b.Time ∧ (a.Group < b.Group ∨ (a.Group = b.Group ∧ Op.bytesLess a.Key b.Key = true))) := by
  unfold l23Ahead
  by_cases h1 : a.Time = b.Time
  · by_cases h2 : a.Group = b.Group
    · simp [h1, h2]
    · simp [h1, h2]
  · simp [h1]
theorem w8 (a : TFeedItem) : l23Ahead a a = false := by
  cases h : l23Ahead a a with
  | false => rfl
  | true =>
    rw [AD7] at h
    rcases h with h | ⟨_, h | ⟨_, h⟩⟩
    · omega
    · omega
    · rw [M3] at h; cases h
theorem m7 (a b c : TFeedItem) (h : l23Ahead a b = true) (k : l23Ahead b c = true) : l23Ahead a c = true := by
  rw [AD7] at h k ⊢
  rcases h with h | ⟨h1, h | ⟨h2, h⟩⟩
  · rcases k with k | ⟨k1, k⟩
    · exact .inl (by omega)
    · exact .inl (by omega)
  · rcases k with k | ⟨k1, k | ⟨k2, k⟩⟩
    · exact .inl (by omega)
    · exact .inr ⟨by omega, .inl (by omega)⟩
    · exact .inr ⟨by omega, .inl (by omega)⟩
  · rcases k with k | ⟨k1, k | ⟨k2, k⟩⟩
    · exact .inl (by omega)
    · exact .inr ⟨by omega, .inl (by omega)⟩
    · exact .inr ⟨by omega, .inr ⟨by omega, T4 h k⟩⟩
def sameKey (a b : TFeedItem) : Prop := a.Time = b.Time ∧ a.Group = b.Group ∧ a.Key = b.Key
theorem Af4 (a b : TFeedItem) : l23Ahead a b = true ∨ sameKey a b ∨ l23Ahead b a = true := by
  rw [AD7, AD7]; unfold sameKey
  by_cases h1 : a.Time = b.Time
  · by_cases h2 : a.Group = b.Group
    · rcases AD0 a.Key b.Key with h | h | h
      · exact .inl (.inr ⟨h1, .inr ⟨h2, h⟩⟩)
      · exact .inr (.inl ⟨h1, h2, h⟩)
      · exact .inr (.inr (.inr ⟨h1.symm, .inr ⟨h2.symm, h⟩⟩))
    · by_cases h3 : a.Group < b.Group
      · exact .inl (.inr ⟨h1, .inl h3⟩)
      · exact .inr (.inr (.inr ⟨h1.symm, .inl (by omega)⟩))
  · by_cases h3 : a.Time < b.Time
    · exact .inl (.inl h3)
    · exact .inr (.inr (.inl (by omega)))
theorem Ax6 {a b : TFeedItem} (h : sameKey a b) (c : TFeedItem) : l23Ahead a c = l23Ahead b c := by
  obtain ⟨h1, h2, h3⟩ := h
  unfold l23Ahead; rw [h1, h2, h3]
theorem AW7 {a b : TFeedItem} (h : l23Ahead a b = true) : l23Ahead b a = false := by
  cases e : l23Ahead b a with
  | false => rfl
  | true => have := m7 _ _ _ h e; rw [w8] at this; cases this
theorem BB2 : Swo l23Ahead where
  asym a b h := AW7 h
  ntr a b c h k := by
    cases e : l23Ahead c a with
    | false => rfl
    | true =>
      rcases Af4 b c with f | f | f
      · rw [m7 _ _ _ f e] at h; cases h
      · rw [Ax6 f, e] at h; cases h
      · rw [f] at k; cases k
theorem lt_ahead : (fun x y : TFeedItem => decide (compareItems x y < 0)) = l23Ahead := by
  funext x y
  rw [← AI9]
  by_cases h : compareItems x y < 0
  · simp [h]
  · simp [h]; omega
def Srt (l : List TFeedItem) : Prop := l.Pairwise fun a b => l23Ahead a b = true
theorem At9 {l : List TFeedItem} : adj l23Ahead l = true ↔ Srt l := Ak7 m7
theorem AW8 (l : List TFeedItem) : isFeed l = true ↔ Srt l ∧ l.length ≤ 400 := by
  unfold isFeed
  rw [Ac0 AI9, Bool.and_eq_true, At9, decide_eq_true_eq]
  constructor
  · exact fun h => ⟨h.1, by have := h.2; omega⟩
  · exact fun h => ⟨h.1, by have := h.2; omega⟩
theorem X1 (l : List TFeedItem) : l23Feed l = true ↔ (∀ x ∈ l, l23Good x = true) ∧ Srt l ∧ l.length ≤ 400 := by
  unfold l23Feed
  rw [Bool.and_eq_true, Bool.and_eq_true, At9, decide_eq_true_eq, List.all_eq_true]
  constructor
  · exact fun h => ⟨h.1.1, h.1.2, by have := h.2; omega⟩
  · exact fun h => ⟨⟨h.1, h.2.1⟩, by have := h.2.2; omega⟩
theorem Aa2 : ∀ {l : List TFeedItem}, Srt l → ∀ x ∈ l, ∀ y ∈ l, l23Ahead x y = false → l23Ahead y x = false → x = y
  | [], _, x, hx, _, _, _, _ => by cases hx
  | z :: l, h, x, hx, y, hy, h1, h2 => by
    obtain ⟨k1, k2⟩ := List.pairwise_cons.1 h
    rcases List.mem_cons.1 hx with e | ex
    · rcases List.mem_cons.1 hy with f | fy
      · rw [e, f]
      · rw [e, k1 y fy] at h1; cases h1
    · rcases List.mem_cons.1 hy with f | fy
      · rw [f, k1 x ex] at h2; cases h2
      · exact Aa2 k2 x ex y fy h1 h2
theorem AO6 : ∀ {a b : List TFeedItem}, Srt a → Srt b → (∀ x, x ∈ a ↔ x ∈ b) → a = b
  | [], [], _, _, _ => rfl
  | [], y :: b, _, _, h => by have := (h y).2 List.mem_cons_self; cases this
  | x :: a, [], _, _, h => by have := (h x).1 List.mem_cons_self; cases this
  | x :: a, y :: b, ha, hb, h => by
    obtain ⟨a1, a2⟩ := List.pairwise_cons.1 ha
    obtain ⟨b1, b2⟩ := List.pairwise_cons.1 hb
    have e : x = y := by
      rcases List.mem_cons.1 ((h x).1 List.mem_cons_self) with e | e
      · exact e
      · rcases List.mem_cons.1 ((h y).2 List.mem_cons_self) with f | f
        · exact f.symm
        · have := AW7 (b1 x e); rw [a1 y f] at this; cases this
    subst e
    rw [AO6 a2 b2 fun z => ?_]
    constructor
    · intro hz
      rcases List.mem_cons.1 ((h z).1 (List.mem_cons_of_mem _ hz)) with e | e
      · subst e; have := a1 z hz; rw [w8] at this; cases this
      · exact e
    · intro hz
      rcases List.mem_cons.1 ((h z).2 (List.mem_cons_of_mem _ hz)) with e | e
      · subst e; have := b1 z hz; rw [w8] at this; cases this
      · exact e
def putR : List TFeedItem → TFeedItem → List TFeedItem × Bool
  | [], x => ([x], true)
  | y :: l, x => if l23Ahead y x = true then (y :: (putR l x).1, (putR l x).2) else if l23Ahead x y = true then (x :: y :: l, true) else (y :: l, decide (y = x))
theorem Aa3 {x : TFeedItem} : ∀ {l : List TFeedItem} {k : Nat}, k ≤ l.length → (∀ i y, i < k → l[i]? = some y → l23Ahead y x = true) → putR l x = (l.take k ++ (putR (l.drop k) x).1, (putR (l.drop k) x).2)
  | l, 0, _, _ => by simp
  | [], k + 1, h, _ => by simp at h
  | y :: l, k + 1, h, g => by
    rw [putR, if_pos (g 0 y (by omega) rfl), Aa3 (l := l) (k := k) (by simpa using h) fun i z hi hz => g (i + 1) z (by omega) (by simpa using hz)]
    rfl
theorem putR_end {x : TFeedItem} {l : List TFeedItem} {k : Nat} (h : k ≤ l.length) (g : ∀ i y, i < k → l[i]? = some y → l23Ahead y x = true) (he : ∀ y, l[k]? = some y → l23Ahead x y = true) (hn : ∀ y, l[k]? = some y → l23Ahead y x = false) : putR l x = (l.take k ++ x :: l.drop k, true) := by
  rw [Aa3 h g]
  by_cases hk : k < l.length
  · obtain ⟨y, hy⟩ := get_some hk
    rw [drop_some hy, putR, if_neg (by rw [hn y hy]; decide), if_pos (he y hy)]
  · rw [List.drop_eq_nil_of_le (by omega)]; rfl
theorem BB3 {x y : TFeedItem} {l : List TFeedItem} {k : Nat} (h : k ≤ l.length) (g : ∀ i y, i < k → l[i]? = some y → l23Ahead y x = true) (hy : l[k]? = some y) (he : l23Ahead x y = false) (hn : l23Ahead y x = false) : putR l x = (l, decide (y = x)) := by
  rw [Aa3 h g, drop_some hy, putR, if_neg (by rw [hn]; decide), if_neg (by rw [he]; decide)]
  show (l.take k ++ (y :: l.drop (k + 1)), decide (y = x)) = _
  rw [← drop_some hy, List.take_append_drop]
theorem AI6 (x : TFeedItem) : ∀ l : List TFeedItem, (putR l x).1.length ≤ l.length + 1
  | [] => Nat.le_refl _
  | y :: l => by
    have := AI6 x l
    rw [putR]
    split
    · show (putR l x).1.length + 1 ≤ l.length + 1 + 1; omega
    · split
      · exact Nat.le_refl _
      · exact Nat.le_succ _
theorem An5 (x : TFeedItem) : ∀ l : List TFeedItem, ∀ z ∈ (putR l x).1, z ∈ l ∨ z = x
  | [], z, h => by simp [putR] at h; exact .inr h
  | y :: l, z, h => by
    rw [putR] at h
    split at h
    · rcases List.mem_cons.1 h with rfl | h
      · exact .inl List.mem_cons_self
      · exact (An5 x l z h).imp (List.mem_cons_of_mem _) id
    · split at h
      · rcases List.mem_cons.1 h with rfl | h
        · exact .inr rfl
        · exact .inl h
      · exact .inl h
theorem Aa4 {x : TFeedItem} : ∀ {l : List TFeedItem}, Srt l → (putR l x).2 = true → Srt (putR l x).1 ∧ ∀ z, z ∈ (putR l x).1 ↔ z ∈ l ∨ z = x
  | [], _, _ => ⟨by unfold Srt putR; simp, fun z => by simp [putR]⟩
  | y :: l, h, g => by
    obtain ⟨k1, k2⟩ := List.pairwise_cons.1 h
    rw [putR] at g ⊢
    by_cases h1 : l23Ahead y x = true
    · rw [if_pos h1] at g ⊢
      obtain ⟨i1, i2⟩ := Aa4 k2 g
      refine ⟨List.pairwise_cons.2 ⟨fun z hz => ?_, i1⟩, fun z => ?_⟩
      · rcases (i2 z).1 hz with hz | rfl
        · exact k1 z hz
        · exact h1
      · show z ∈ y :: (putR l x).1 ↔ _
        rw [List.mem_cons, i2, List.mem_cons, or_assoc]
    · rw [if_neg h1] at g ⊢
      by_cases h2 : l23Ahead x y = true
      · rw [if_pos h2] at g ⊢
        refine ⟨List.pairwise_cons.2 ⟨fun z hz => ?_, h⟩, fun z => ?_⟩
        · rcases List.mem_cons.1 hz with rfl | hz
          · exact h2
          · exact m7 _ _ _ h2 (k1 z hz)
        · show z ∈ x :: y :: l ↔ _
          rw [List.mem_cons, or_comm]
      · rw [if_neg h2] at g ⊢
        have e : y = x := by simpa using g
        subst e
        refine ⟨h, fun z => ?_⟩
        show z ∈ y :: l ↔ _
        constructor
        · exact .inl
        · rintro (hz | rfl)
          · exact hz
          · exact List.mem_cons_self
theorem Aa5 {x : TFeedItem} : ∀ {l : List TFeedItem}, (putR l x).2 = false → ∃ y ∈ l, y ≠ x ∧ l23Ahead y x = false ∧ l23Ahead x y = false
  | [], g => by simp [putR] at g
  | y :: l, g => by
    rw [putR] at g
    by_cases h1 : l23Ahead y x = true
    · rw [if_pos h1] at g
      obtain ⟨z, z1, z2⟩ := Aa5 (l := l) g
      exact ⟨z, List.mem_cons_of_mem _ z1, z2⟩
    · rw [if_neg h1] at g
      by_cases h2 : l23Ahead x y = true
      · rw [if_pos h2] at g; cases g
      · rw [if_neg h2] at g
        exact ⟨y, List.mem_cons_self, by simpa using g, by simpa using h1, by simpa using h2⟩
def mergeAll : List TFeedItem → List TFeedItem → Option (List TFeedItem)
  | o, [] => some o
  | o, x :: r => if (putR o x).2 = true then mergeAll (putR o x).1 r else none
def mergeF (a b : List TFeedItem) : List TFeedItem × Bool :=
  if l23Feed a = true ∧ l23Feed b = true then (match mergeAll a b with | some o => if 400 < o.length then ([], false) else (o, true) | none => ([], false)) else ([], false)
theorem Ai3 {l o b : List TFeedItem} {i : Nat} {x : TFeedItem} (h : mergeAll l b = mergeAll o (b.drop i)) (hx : b[i]? = some x) (k : (putR o x).2 = true) : mergeAll l b = mergeAll (putR o x).1 (b.drop (i + 1)) := by
  rw [h, drop_some hx, mergeAll, if_pos k]
theorem Ai4 {l o b : List TFeedItem} {i : Nat} {x : TFeedItem} (h : mergeAll l b = mergeAll o (b.drop i)) (hx : b[i]? = some x) (k : (putR o x).2 = false) : mergeAll l b = none := by
  rw [h, drop_some hx, mergeAll, if_neg (by rw [k]; decide)]
theorem An6 {l o b : List TFeedItem} {i : Nat} (h : mergeAll l b = mergeAll o (b.drop i)) (hi : b.length ≤ i) : mergeAll l b = some o := by
  rw [h, List.drop_eq_nil_of_le hi]; rfl
theorem y5 : ∀ {b a r : List TFeedItem}, Srt a → mergeAll a b = some r → Srt r ∧ (∀ z, z ∈ r ↔ z ∈ a ∨ z ∈ b) ∧ r.length ≤ a.length + b.length
  | [], a, r, h, e => by injection e with e; subst e; exact ⟨h, fun z => by simp, Nat.le_refl _⟩
  | x :: b, a, r, h, e => by
    rw [mergeAll] at e
    split at e
    · rename_i hk
      obtain ⟨k1, k2⟩ := Aa4 h hk
      obtain ⟨i1, i2, i3⟩ := y5 k1 e
      refine ⟨i1, fun z => ?_, ?_⟩
      · rw [i2, k2, List.mem_cons, or_assoc]
      · have := AI6 x a; rw [J3]; omega
    · cases e
theorem AJ6 : ∀ {b a : List TFeedItem}, mergeAll a b = none → ∃ x y, (x ∈ a ∨ x ∈ b) ∧ (y ∈ a ∨ y ∈ b) ∧ x ≠ y ∧ l23Ahead x y = false ∧ l23Ahead y x = false
  | [], a, e => by cases e
  | x :: b, a, e => by
    rw [mergeAll] at e
    split at e
    · obtain ⟨u, v, hu, hv, hh⟩ := AJ6 e
      have : ∀ z, z ∈ (putR a x).1 ∨ z ∈ b → z ∈ a ∨ z ∈ x :: b := fun z hz => by
        rcases hz with hz | hz
        · rcases An5 x a z hz with hz | rfl
          · exact .inl hz
          · exact .inr List.mem_cons_self
        · exact .inr (List.mem_cons_of_mem _ hz)
      exact ⟨u, v, this u hu, this v hv, hh⟩
    · rename_i hk
      obtain ⟨y, y1, y2, y3, y4⟩ := Aa5 (l := a) (x := x) (by simpa using hk)
      exact ⟨y, x, .inl y1, .inr List.mem_cons_self, y2, y3, y4⟩
theorem An7 (a b : List TFeedItem) : mergeF a b = ([], false) ∨ ∃ r, mergeF a b = (r, true) ∧ l23Feed a = true ∧ l23Feed b = true ∧ mergeAll a b = some r ∧ r.length ≤ 400 := by
  unfold mergeF
  split
  · rename_i h
    cases e : mergeAll a b with
    | none => exact .inl rfl
    | some r =>
      show (if 400 < r.length then ([], false) else (r, true)) = _ ∨ ∃ q, (if 400 < r.length then ([], false) else (r, true)) = _ ∧ _
      split
      · exact .inl rfl
      · exact .inr ⟨r, rfl, h.1, h.2, rfl, by omega⟩
  · exact .inl rfl
end Go.M

namespace Go.Proofs
open Go.Shelf
def Tryz.sortItemsF_ren : Go.Shelf.Ren := ⟨fun | 6 => 63 | 15 => 102 | 14 => 101 | 28 => 157 | 29 => 158 | 20 => 149 | 21 => 150 | 22 => 151 | 23 => 152 | 24 => 153 | 25 => 154 | 26 => 155 | 27 => 156 | 46 => 193 | 47 => 194 | 48 => 195 | 49 => 196 | 50 => 197 | 57 => 222 | n => n, fun | 22 => 36 | 24 => 63 | 25 => 96 | 3 => 3 | 39 => 158 | 0 => 0 | 53 => 200 | 55 => 112 | 4 => 4 | 46 => 194 | 45 => 193 | 50 => 24 | 5 => 5 | 9 => 9 | 66 => 228 | 70 => 232 | 76 => 251 | 77 => 252 | n => n, fun | n => n⟩
theorem Tryz.sortItemsF : Go.Proofs.SlLaysF0.n6 Tryz.prog Tryz.sortItemsF_ren := {
  mixed := by kernel_rfl
  f6 := ⟨Tryz.f63.name, by decide, Tryz.func63.trans (congrArg some (by kernel_rfl))⟩
  f14 := ⟨Tryz.f101.name, by decide, Tryz.func101.trans (congrArg some (by kernel_rfl))⟩
  f15 := Tryz.func102.trans (congrArg some (by kernel_rfl))
  f20 := ⟨Tryz.f149.name, by decide, Tryz.func149.trans (congrArg some (by kernel_rfl))⟩
  f21 := ⟨Tryz.f150.name, by decide, Tryz.func150.trans (congrArg some (by kernel_rfl))⟩
  f22 := ⟨Tryz.f151.name, by decide, Tryz.func151.trans (congrArg some (by kernel_rfl))⟩
  f23 := ⟨Tryz.f152.name, by decide, Tryz.func152.trans (congrArg some (by kernel_rfl))⟩
  f24 := ⟨Tryz.f153.name, by decide, Tryz.func153.trans (congrArg some (by kernel_rfl))⟩
  f25 := ⟨Tryz.f154.name, by decide, Tryz.func154.trans (congrArg some (by kernel_rfl))⟩
  f26 := ⟨Tryz.f155.name, by decide, Tryz.func155.trans (congrArg some (by kernel_rfl))⟩
  f27 := ⟨Tryz.f156.name, by decide, Tryz.func156.trans (congrArg some (by kernel_rfl))⟩
  f28 := Tryz.func157.trans (congrArg some (by kernel_rfl))
  f29 := Tryz.func158.trans (congrArg some (by kernel_rfl))
  f46 := ⟨Tryz.f193.name, by decide, Tryz.func193.trans (congrArg some (by kernel_rfl))⟩
  f47 := Tryz.func194.trans (congrArg some (by kernel_rfl))
  f48 := Tryz.func195.trans (congrArg some (by kernel_rfl))
  f49 := ⟨Tryz.f196.name, by decide, Tryz.func196.trans (congrArg some (by kernel_rfl))⟩
  f50 := ⟨Tryz.f197.name, by decide, Tryz.func197.trans (congrArg some (by kernel_rfl))⟩
  f57 := ⟨Tryz.f222.name, by decide, Tryz.func222.trans (congrArg some (by kernel_rfl))⟩
  t0 := Tryz.underlying0
  a0 := Tryz.isAgg0
  z0 := Tryz.sizeOf0
  v0 := Tryz.zeroValue0
  t3 := P5
  a3 := B9
  z3 := B3
  v3 := Tryz.zeroValue3
  t4 := Z5
  a4 := L8
  z4 := J8
  v4 := Tryz.zeroValue4
  t5 := Tryz.underlying5
  a5 := Tryz.isAgg5
  z5 := Tryz.sizeOf5
  v5 := Tryz.zeroValue5
  t9 := M9
  a9 := G5
  z9 := E8
  v9 := Tryz.zeroValue9
  t22 := F3
  a22 := Tryz.isAgg36
  z22 := Tryz.sizeOf36
  v22 := Tryz.zeroValue36
  t25 := Tryz.underlying96
  a25 := Tryz.isAgg96
  z25 := Tryz.sizeOf96
  v25 := Tryz.zeroValue96
  t39 := Tryz.underlying158
  a39 := Tryz.isAgg158
  z39 := Tryz.sizeOf158
  v39 := Tryz.zeroValue158
  t45 := Tryz.underlying193
  a45 := Tryz.isAgg193
  z45 := Tryz.sizeOf193
  v45 := Tryz.zeroValue193
  t46 := Tryz.underlying194
  a46 := Tryz.isAgg194
  z46 := Tryz.sizeOf194
  v46 := Tryz.zeroValue194
  t50 := Tryz.underlying24
  a50 := Tryz.isAgg24
  z50 := Tryz.sizeOf24
  v50 := Tryz.zeroValue24
  t53 := Tryz.underlying200
  a53 := Tryz.isAgg200
  z53 := Tryz.sizeOf200
  v53 := Tryz.zeroValue200
  t55 := Tryz.underlying112
  a55 := e7
  z55 := V9
  v55 := Tryz.zeroValue112
  t66 := Tryz.underlying228
  a66 := Tryz.isAgg228
  z66 := Tryz.sizeOf228
  v66 := Tryz.zeroValue228
  t70 := Tryz.underlying232
  a70 := Tryz.isAgg232
  z70 := Tryz.sizeOf232
  v70 := Tryz.zeroValue232
  t76 := Tryz.underlying251
  a76 := Tryz.isAgg251
  z76 := Tryz.sizeOf251
  v76 := Tryz.zeroValue251
  t77 := Tryz.underlying252
  a77 := Tryz.isAgg252
  z77 := Tryz.sizeOf252
  v77 := Tryz.zeroValue252 }
end Go.Proofs

namespace Go.AV
open Go.Sort Go.Shelf Go.Proofs
theorem AW9 {α : Type} {k : Nat} (hk0 : 0 < k) {enc : α → List Value} (hk : ∀ x, (enc x).length = k) : ∀ (l : List α) (t : Nat), ((l.map enc).flatten)[t]? = (l[t / k]?).bind fun x => (enc x)[t % k]?
  | [], t => by simp
  | x :: l, t => by
    rw [List.map_cons, List.flatten_cons]
    by_cases ht : t < k
    · rw [List.getElem?_append_left (by rw [hk]; exact ht), Nat.div_eq_of_lt ht, Nat.mod_eq_of_lt ht]; rfl
    · rw [List.getElem?_append_right (by rw [hk]; omega), hk, AW9 hk0 hk l (t - k)]
      have h1 : t / k = (t - k) / k + 1 := Nat.div_eq_sub_div hk0 (by omega)
      have h2 : t % k = (t - k) % k := Nat.mod_eq_sub_mod (by omega)
      rw [h1, h2, S7]
theorem q8 {α : Type} {k : Nat} {enc : α → List Value} (hk : ∀ x, (enc x).length = k) : ∀ l : List α, ((l.map enc).flatten).length = l.length * k
  | [] => by simp
  | x :: l => by rw [List.map_cons, List.flatten_cons, I5, hk, q8 hk l, J3, Nat.succ_mul]; omega
theorem AX0 {α : Type} [Inhabited α] {k : Nat} (hk0 : 0 < k) {enc : α → List Value} (hk : ∀ x, (enc x).length = k) (l : List α) : flatK enc k l.toArray = ((l.map enc).flatten).toArray := by
  apply Array.ext
  · rw [size_flatK]; simp only [List.size_toArray]; rw [q8 hk]
  · intro t h1 h2
    rw [size_flatK] at h1
    simp only [List.size_toArray] at h1 h2
    have e1 := get_flatK enc k l.toArray t (by simpa using h1)
    have hd : t / k < l.length := (Nat.div_lt_iff_lt_mul hk0).2 h1
    have e2 := AW9 hk0 hk l t
    rw [List.getElem?_eq_getElem hd] at e2
    have hm : t % k < (enc l[t / k]).length := by rw [hk]; exact Nat.mod_lt _ hk0
    rw [Option.bind_some, List.getElem?_eq_getElem hm] at e2
    rw [getElem!_pos _ t (by rw [size_flatK]; simpa using h1)] at e1
    rw [e1]
    have e3 : l.toArray[t / k]! = l[t / k] := by rw [getElem!_pos _ _ (by simpa using hd)]; simp
    have e5 : (enc l[t / k])[t % k]! = (enc l[t / k])[t % k] := getElem!_pos (enc l[t / k]) (t % k) hm
    rw [e3, e5]
    have e4 : ((l.map enc).flatten).toArray[t] = ((l.map enc).flatten)[t] := by simp
    rw [e4]
    rw [List.getElem?_eq_getElem h2] at e2
    injection e2 with e2; exact e2.symm
section
variable {P : Program} {f : FuncId} {t : TypeId} {α : Type} [Inhabited α]
theorem row_ownK (k : Nat) (hk0 : 0 < k) (enc : α → List Value) (hk : ∀ x, (enc x).length = k) (h1c : ∀ x, ∀ v ∈ enc x, v.oneCell' = true) (c : α → List AV) (hc : ∀ x, c x = (enc x).map AV.is) (fv : Value) (Post : List α → List α → Prop) (hlen : ∀ l l', Post l l' → l'.length = l.length)
    (v : Value) (l : List α) (hl : l.length < 4611686018427387904) (hnil : l = [] → Post [] [])
    (h1 : ∀ (blk cap : Nat) (w : World), HoldsK enc k w blk 0 l.toArray → blk < w.heap.size →
      Calls P f #[.slice (some ⟨blk, 0, none⟩) l.length cap, fv] w fun e w' => e = .returned (.tuple #[]) ∧ ∃ (l' : List α) (n : Nat) (os : Array Obj), Post l l' ∧ w' = sortWorldK enc k w blk 0 n l'.toArray os)
    (h0 : ∀ (p : Option Addr) (cap : Nat) (w : World), Calls P f #[.slice p 0 cap, fv] w fun e w' => e = .returned (.tuple #[]) ∧ w' = w) :
    GSpec P f [AV.is v, AV.is fv] [.arr v t k (l.map c)] (fun l' => Post l l') (fun l' => [.arr v t k (l'.map c)]) (fun _ => AV.tup []) := by
  intro R w vs hr hd hok hnd
  have hvs : vs = [v, fv] := by
    obtain ⟨hlen, hval⟩ := hd
    match vs, hlen, hval with
    | [a, b], _, hval => rw [show a = v from hval 0 a (AV.is v) rfl rfl, show b = fv from hval 1 b (AV.is fv) rfl rfl]
  subst hvs
  have ho := hok _ (List.mem_singleton.2 rfl)
  obtain ⟨hR, hsz, xs, hown, hden⟩ := ho
  have hxs : xs = (l.map enc).flatten := by
    rw [At4 hc] at hden
    exact At2 hden
  rw [A8] at hown
  rcases hown.2 with ⟨hv, hn⟩ | ⟨g, cap, cur, hv, _, hg, hnc, hcm, hcs, htk⟩
  · have hl0 : l = [] := List.length_eq_zero_iff.1 hn
    subst hv; subst hl0
    refine (h0 none 0 w).mono ?_
    rintro e w' ⟨rfl, rfl⟩
    exact ⟨[], _, R, hnil rfl, rfl, ⟨[], rfl, DenV.nil _⟩, Ae5 hr (hok _ (List.mem_singleton.2 rfl))⟩
  · subst hv
    have hgl : g < w.heap.size := (Array.getElem?_eq_some_iff.1 hg).1
    have hfl := AX0 hk0 hk l
    have hfs := q8 hk l
    have hH : HoldsK enc k w g 0 l.toArray := fun j hj => by
      rw [size_flatK] at hj
      have hj' : j < ((l.map enc).flatten).length := by rw [hfs]; simpa using hj
      have h9 : cur.toList[j]? = some ((l.map enc).flatten)[j] := by
        rw [← List.getElem?_take_of_lt (by rw [hfs] at hj'; exact hj'), htk, hxs, List.getElem?_eq_getElem hj']
      refine ⟨?_, by simp [World.frozen?, hg]⟩
      simp only [World.cell?, hg, Nat.zero_add]
      simp only [Option.isSome_none, Bool.false_eq_true, if_false]
      rw [← Array.getElem?_toList, h9, hfl]
      refine congrArg some ?_
      show _ = ((l.map enc).flatten).toArray[j]!
      rw [getElem!_pos _ j (by simpa using hj')]
      simp
    refine (h1 g cap w hH hgl).mono ?_
    rintro e w' ⟨rfl, l', n, os, hp, rfl⟩
    have hll := hlen l l' hp
    have hfl' := AX0 hk0 hk l'
    have hfs' := q8 hk l'
    refine ⟨l', _, R, hp, rfl, ⟨[], rfl, DenV.nil _⟩, ?_⟩
    have hgb : w.grownBy (sortWorldK enc k w g 0 n l'.toArray os) (some g) := by
      refine ⟨rfl, rfl, rfl, by simp [sortWorldK, putRowK], fun q hq hne => ?_⟩
      unfold sortWorldK
      rw [heap_grow_old _ _ (by simpa [putRowK] using hq)]
      have h9 : g ≠ q := fun e => hne (by rw [e])
      simp [putRowK, putRow, mapBlock, Sort.ahead, Array.getElem?_modify, h9]
    have hheap : (sortWorldK enc k w g 0 n l'.toArray os).heap[g]? = some (.cells (putCells id 0 ((l'.map enc).flatten).toArray cur) t (0, 0)) := by
      unfold sortWorldK
      rw [heap_grow_old _ _ (by simpa [putRowK] using hgl)]
      simp [putRowK, putRow, mapBlock, Sort.ahead, Array.getElem?_modify, hg, onCells, hfl']
    refine Al7 (g := g) (xs := (l'.map enc).flatten) rfl hr (hR g rfl) hgb ?_ ?_ ?_
    · rw [A8, hll]
      refine ⟨by rw [hfs', hll], .inr ⟨g, cap, _, rfl, Nat.zero_le _, hheap, hnc, hcm, by simp [putCells, hcs], ?_⟩⟩
      apply List.ext_getElem?
      intro j
      by_cases hj : j < l.length * k
      · rw [List.getElem?_take_of_lt (by omega), Array.getElem?_toList]
        have h8 : j < ((l'.map enc).flatten).length := by rw [hfs', hll]; exact hj
        have h7 : j < cur.size := by
          have := congrArg List.length htk
          have h6 : cur.toList.length = cur.size := Array.length_toList
          rw [F0, hxs, hfs] at this; omega
        simp only [putCells, Array.getElem?_mapIdx, Array.getElem?_eq_getElem h7, Option.map_some, Nat.zero_le, true_and, Nat.zero_add, List.size_toArray, h8, if_true, Nat.sub_zero]
        rw [getElem!_pos _ j (by simpa using h8), List.getElem?_eq_getElem h8]; simp
      · rw [List.getElem?_take_eq_none (by omega), List.getElem?_eq_none (by rw [hfs', hll]; omega)]
    · rw [At4 hc]
      exact At3 fun y hy => by
        obtain ⟨m, hm, hy⟩ := List.mem_flatten.1 hy
        obtain ⟨x, _, rfl⟩ := List.mem_map.1 hm
        exact h1c x y hy
    · intro e he; obtain ⟨x, _, rfl⟩ := List.mem_map.1 he; rw [hc, A8, hk]
end
end Go.AV
namespace Go.Proofs.YtkegepoihkhihaaGreat
open Go Go.AV Go.M
open Go.Sort Go.Shelf Go.Proofs
theorem AA3 (x y : TFeedItem) : ltOf M.compareItems x y = l23Ahead x y := congrFun (congrFun lt_ahead x) y
theorem BB4 : SWO (ltOf M.compareItems) where
  irrefl x := by rw [AA3]; exact w8 x
  trans x y z h1 h2 := by rw [AA3] at *; exact m7 _ _ _ h1 h2
  ntrans x y z h1 h2 := by rw [AA3] at *; exact BB2.ntr z y x h2 h1
theorem BB5 {l : List TFeedItem} {d : Array TFeedItem} (h : PermIn 0 l.toArray.size l.toArray d) : d.toList.Perm l := by
  obtain ⟨h1, _, h3⟩ := h
  have e1 : d.extract 0 l.toArray.size = d := by rw [← h1]; simp
  have e2 : l.toArray.extract 0 l.toArray.size = l.toArray := by simp
  rw [e1, e2] at h3
  simpa using h3
theorem Ar1 {l : List TFeedItem} {d : Array TFeedItem} (hs : d.size = l.toArray.size) (h : SortedIn (ltOf M.compareItems) 0 l.toArray.size d) : SortedOn l23Ahead d.toList 0 d.toList.length := by
  intro i j x y _ hij hj hx hy
  have hj2 : j < d.size := by simpa using hj
  have h9 := h i j (Nat.zero_le _) hij (by rw [← hs]; exact hj2)
  rw [AA3, getElem!_pos d i (by omega), getElem!_pos d j hj2] at h9
  rw [Array.getElem?_toList, Array.getElem?_eq_getElem (by omega)] at hx
  rw [Array.getElem?_toList, Array.getElem?_eq_getElem hj2] at hy
  injection hx with hx; injection hy with hy
  rw [← hx, ← hy]; exact h9
theorem AF9 (v : Value) (l : List TFeedItem) (hl : l.length ≤ 1048576) : GSpec Tryz.prog 63 [AV.is v, AV.fn 64] [.arr v 63 5 (l.map TFeedItem.cs)]
    (fun l' : List TFeedItem => l'.Perm l ∧ SortedOn l23Ahead l' 0 l'.length) (fun l' => [.arr v 63 5 (l'.map TFeedItem.cs)]) (fun _ => AV.tup []) :=
  row_ownK 5 (by decide) encItem (fun _ => rfl) (fun x v hv => by
      simp only [encItem, List.mem_cons, List.not_mem_nil, or_false] at hv
      rcases hv with rfl | rfl | rfl | rfl | rfl <;> rfl) TFeedItem.cs (fun _ => rfl) (.func (.func 64) #[] #[]) (fun l l' => l'.Perm l ∧ SortedOn l23Ahead l' 0 l'.length) (fun l l' h => h.1.length_eq) v l (by omega)
    (fun _ => ⟨List.Perm.refl _, fun i j x y _ _ hj => by simp at hj⟩)
    (fun blk cap w hH hblk => by
      have eg : ∀ args w, (callFunc 64 args).run Tryz.prog w = .ok (.enter 64 args) w := enters_of Tryz.func64 (by kernel_rfl) rfl
      have hcon := AnyQ.slices_SortFunc Tryz.sortItemsF 5 T1 H9 encItem (fun _ => rfl) (fun x v hv => by
        simp only [encItem, List.mem_cons, List.not_mem_nil, or_false] at hv
        rcases hv with rfl | rfl | rfl | rfl | rfl <;> rfl) M.compareItems BB4 64 #[] blk 0 cap l.toArray w eg (fun _ _ _ _ x y => AN3 x y _) hH hblk (by simp; omega)
      refine Calls.mono (show Calls Tryz.prog 63 _ _ _ from hcon) ?_
      rintro e w' ⟨rfl, d', n, os, hp, hs, rfl⟩
      exact ⟨rfl, d'.toList, n, os, ⟨BB5 hp, Ar1 hp.1 hs⟩, rfl⟩)
    (fun p cap w => AnyF.slices_SortFunc_none { Tryz.sortItemsF with } p cap _ w)
end Go.Proofs.YtkegepoihkhihaaGreat

namespace Go.M
open Go.AV
def inTime (a u : Int) (v : TVer) : Bool := decide (a < v.Time) && decide (v.Time ≤ u)
def itemOf (g : Int) (k : Str) (v : TVer) : TFeedItem := ⟨v.Time, g, k, v.Val, v.Gone⟩
def cellItems (g a u : Int) (c : TCell) : List TFeedItem := (c.Vers.filter (inTime a u)).map (itemOf g c.Key)
def rawItems (l : List TCell) (g a u : Int) : List TFeedItem := (l.map (cellItems g a u)).flatten
def Cmb (x y : TFeedItem) : Prop := l23Ahead x y = true ∨ l23Ahead y x = true
def Dist (l : List TFeedItem) : Prop := l.Pairwise Cmb
theorem Cmb.symm {x y : TFeedItem} (h : Cmb x y) : Cmb y x := Or.symm h
theorem cmb_ne {x y : TFeedItem} (h : Cmb x y) : x ≠ y := fun e => by
  subst e
  rcases h with h | h <;> (rw [w8] at h; cases h)
theorem AX1 {x y : TFeedItem} (h : ¬ sameKey x y) : Cmb x y := by
  rcases Af4 x y with k | k | k
  · exact .inl k
  · exact (h k).elim
  · exact .inr k
theorem q9 {l : List TFeedItem} (h : Dist l) : l.Nodup := h.imp fun {a b} hab => cmb_ne hab
theorem AC0 {l : List TFeedItem} (h : Srt l) : Dist l := h.imp fun {a b} hab => .inl hab
def insAll (o : List TFeedItem) (l : List TFeedItem) : List TFeedItem := l.foldl (fun o x => (putR o x).1) o
def feedIn (l : List TCell) (g a u : Int) : List TFeedItem := insAll [] (rawItems l g a u)
theorem m9 {g a u : Int} {c : TCell} {x : TFeedItem} : x ∈ cellItems g a u c ↔ ∃ v ∈ c.Vers, (a < v.Time ∧ v.Time ≤ u) ∧ x = itemOf g c.Key v := by
  unfold cellItems inTime
  simp only [List.mem_map, List.mem_filter, Bool.and_eq_true, decide_eq_true_eq]
  constructor
  · rintro ⟨v, ⟨h1, h2⟩, rfl⟩; exact ⟨v, h1, h2, rfl⟩
  · rintro ⟨v, h1, h2, rfl⟩; exact ⟨v, ⟨h1, h2⟩, rfl⟩
theorem r4 {l : List TCell} {g a u : Int} {x : TFeedItem} : x ∈ rawItems l g a u ↔ ∃ c ∈ l, ∃ v ∈ c.Vers, (a < v.Time ∧ v.Time ≤ u) ∧ x = itemOf g c.Key v := by
  unfold rawItems
  simp only [List.mem_flatten, List.mem_map]
  constructor
  · rintro ⟨_, ⟨c, hc, rfl⟩, hx⟩; exact ⟨c, hc, m9.1 hx⟩
  · rintro ⟨c, hc, hx⟩; exact ⟨_, ⟨c, hc, rfl⟩, m9.2 hx⟩
theorem AT6 {l : List TCell} (ha : adj cLess l = true) (hv : ∀ c ∈ l, adj verLess c.Vers = true) (g a u : Int) : Dist (rawItems l g a u) := by
  unfold Dist rawItems
  rw [List.pairwise_flatten, List.pairwise_map]
  refine ⟨fun m hm => ?_, ((AD3 d4).1 ha).imp fun {c d} hcd x hx y hy => ?_⟩
  · obtain ⟨c, hc, rfl⟩ := List.mem_map.1 hm
    unfold cellItems
    rw [List.pairwise_map]
    refine (List.Pairwise.sublist List.filter_sublist ((AD3 Ag8).1 (hv c hc))).imp fun {v w} hvw => AX1 fun hs => ?_
    have := hs.1
    unfold verLess at hvw
    have := of_decide_eq_true hvw
    unfold itemOf at hs
    have := hs.1
    dsimp only at this
    omega
  · obtain ⟨v, _, _, rfl⟩ := m9.1 hx
    obtain ⟨w, _, _, rfl⟩ := m9.1 hy
    refine AX1 fun hs => ?_
    have h2 : c.Key = d.Key := hs.2.2
    unfold cLess at hcd
    rw [h2, M3] at hcd; cases hcd
theorem Af5 : ∀ {l o : List TFeedItem}, Srt o → (∀ x ∈ l, ∀ y ∈ o, Cmb x y) → Dist l → Srt (insAll o l) ∧ ∀ z, z ∈ insAll o l ↔ z ∈ o ∨ z ∈ l
  | [], o, h, _, _ => ⟨h, fun z => by unfold insAll; simp⟩
  | x :: l, o, h, hc, hd => by
    obtain ⟨d1, d2⟩ := List.pairwise_cons.1 hd
    have hp : (putR o x).2 = true := by
      cases e : (putR o x).2 with
      | true => rfl
      | false =>
        obtain ⟨y, hy, _, h3, h4⟩ := Aa5 e
        rcases hc x List.mem_cons_self y hy with k | k
        · rw [h4] at k; cases k
        · rw [h3] at k; cases k
    obtain ⟨p1, p2⟩ := Aa4 h hp
    obtain ⟨i1, i2⟩ := Af5 (l := l) (o := (putR o x).1) p1 (fun z hz y hy => by
      rcases (p2 y).1 hy with hy | rfl
      · exact hc z (List.mem_cons_of_mem _ hz) y hy
      · exact (d1 z hz).symm) d2
    refine ⟨i1, fun z => ?_⟩
    show z ∈ insAll (putR o x).1 l ↔ _
    rw [i2, p2, List.mem_cons, or_assoc]
theorem f0 {l : List TCell} (ha : adj cLess l = true) (hv : ∀ c ∈ l, adj verLess c.Vers = true) (g a u : Int) : Srt (feedIn l g a u) ∧ ∀ z, z ∈ feedIn l g a u ↔ z ∈ rawItems l g a u := by
  obtain ⟨h1, h2⟩ := Af5 (l := rawItems l g a u) (o := []) List.Pairwise.nil (fun _ _ y hy => by cases hy) (AT6 ha hv g a u)
  exact ⟨h1, fun z => by unfold feedIn; rw [h2]; simp⟩
theorem Af6 {a b : List TFeedItem} (ha : a.Nodup) (hb : b.Nodup) (h : ∀ z, z ∈ a ↔ z ∈ b) : a.length = b.length :=
  Nat.le_antisymm (AH3 ha fun x hx => (h x).1 hx) (AH3 hb fun x hx => (h x).2 hx)
theorem AX2 {l : List TCell} (ha : adj cLess l = true) (hv : ∀ c ∈ l, adj verLess c.Vers = true) (g a u : Int) : (feedIn l g a u).length = (rawItems l g a u).length :=
  Af6 (q9 (AC0 (f0 ha hv g a u).1)) (q9 (AT6 ha hv g a u)) (f0 ha hv g a u).2
theorem AX3 {l l' : List TFeedItem} (hp : l'.Perm l) (hd : Dist l) (hs : SortedOn l23Ahead l' 0 l'.length) : Srt l' := by
  have hd2 : Dist l' := (hp.pairwise_iff (fun {x y} h => Cmb.symm h)).2 hd
  unfold Srt
  rw [List.pairwise_iff_getElem]
  intro i j hi hj hij
  rcases List.pairwise_iff_getElem.1 hd2 i j hi hj hij with h | h
  · exact h
  · have := hs i j _ _ (Nat.zero_le _) hij hj (List.getElem?_eq_getElem hi) (List.getElem?_eq_getElem hj)
    rw [h] at this; cases this
theorem BB6 {l : List TCell} (ha : adj cLess l = true) (hv : ∀ c ∈ l, adj verLess c.Vers = true) {g a u : Int} {l' : List TFeedItem} (hp : l'.Perm (rawItems l g a u)) (hs : SortedOn l23Ahead l' 0 l'.length) : l' = feedIn l g a u :=
  AO6 (AX3 hp (AT6 ha hv g a u) hs) (f0 ha hv g a u).1 fun z => by rw [hp.mem_iff, (f0 ha hv g a u).2]
theorem c6 {l : List TCell} (h : goodCells l = true) : adj cLess l = true ∧ ∀ c ∈ l, adj verLess c.Vers = true := ⟨(U0 h).2.1, fun c hc => ((U0 h).2.2 c hc).2.2.2.1⟩
theorem AO7 : ∀ {l : List TCell} {g a u : Int}, (∀ c ∈ l, c.Vers.length ≤ 16) → (rawItems l g a u).length ≤ 16 * l.length
  | [], g, a, u, _ => by unfold rawItems; simp
  | c :: l, g, a, u, h => by
    have ih := AO7 (g := g) (a := a) (u := u) fun d hd => h d (List.mem_cons_of_mem _ hd)
    have h1 := h c List.mem_cons_self
    unfold rawItems at ih ⊢
    rw [List.map_cons, List.flatten_cons, I5, J3]
    have h2 : (cellItems g a u c).length ≤ c.Vers.length := by unfold cellItems; rw [A8]; exact List.length_filter_le _ _
    omega
theorem AR2 {l : List TCell} (h : goodCells l = true) {g : Int} (hg : isGroup g = true) (a u : Int) : l23Feed (feedIn l g a u) = true ∧ (feedIn l g a u).length ≤ 384 ∧ (feedIn l g a u).length = (rawItems l g a u).length := by
  obtain ⟨f1, f2, f3⟩ := U0 h
  obtain ⟨c1, c2⟩ := c6 h
  obtain ⟨k1, k2⟩ := f0 c1 c2 g a u
  have hl := AX2 c1 c2 g a u
  have hr := AO7 (g := g) (a := a) (u := u) fun c hc => (f3 c hc).2.2.1
  refine ⟨(X1 _).2 ⟨fun x hx => ?_, k1, by omega⟩, by omega, hl⟩
  obtain ⟨c, hc, v, hv, _, rfl⟩ := r4.1 ((k2 x).1 hx)
  have h1 := (f3 c hc).1
  have h2 := (f3 c hc).2.2.2.2 v hv
  rw [← AP6]
  unfold goodItem itemOf
  unfold verGood at h2
  simp only [Bool.and_eq_true] at h2 ⊢
  exact ⟨⟨⟨h2.1, hg⟩, h1⟩, h2.2⟩
theorem r5 {l : List TCell} (h : goodCells l = true) {g a u : Int} {x : TFeedItem} (hx : x ∈ feedIn l g a u) : x.Group = g ∧ a < x.Time ∧ x.Time ≤ u := by
  obtain ⟨c1, c2⟩ := c6 h
  obtain ⟨c, hc, v, hv, ht, rfl⟩ := r4.1 (((f0 c1 c2 g a u).2 x).1 hx)
  exact ⟨rfl, ht⟩
def allItems (a u : Int) : Nat → List TState → List TFeedItem
  | _, [] => []
  | i, s :: l => feedIn s.Cells i a u ++ allItems a u (i + 1) l
def mergeN (a u : Int) (o : List TFeedItem) : Nat → List TState → Option (List TFeedItem)
  | _, [] => some o
  | i, s :: l => if (mergeF o (feedIn s.Cells i a u)).2 = true then mergeN a u (mergeF o (feedIn s.Cells i a u)).1 (i + 1) l else none
theorem AD8 : ∀ {l : List TState} {i : Nat} {a u : Int}, (∀ s ∈ l, goodCells s.Cells = true) → ∀ x ∈ allItems a u i l, (i : Int) ≤ x.Group ∧ a < x.Time ∧ x.Time ≤ u
  | [], i, a, u, _, x, hx => by cases hx
  | s :: l, i, a, u, h, x, hx => by
    rcases List.mem_append.1 hx with hx | hx
    · obtain ⟨h1, h2⟩ := r5 (h s List.mem_cons_self) hx
      exact ⟨by omega, h2⟩
    · obtain ⟨h1, h2⟩ := AD8 (fun t ht => h t (List.mem_cons_of_mem _ ht)) x hx
      exact ⟨by omega, h2⟩
theorem An8 : ∀ {l : List TState} {i : Nat} {a u : Int}, (∀ s ∈ l, goodCells s.Cells = true) → Dist (allItems a u i l)
  | [], i, a, u, _ => List.Pairwise.nil
  | s :: l, i, a, u, h => by
    obtain ⟨c1, c2⟩ := c6 (h s List.mem_cons_self)
    have hl := fun t ht => h t (List.mem_cons_of_mem s ht)
    unfold allItems Dist
    rw [List.pairwise_append]
    refine ⟨AC0 (f0 c1 c2 i a u).1, An8 hl, fun x hx y hy => AX1 fun hs => ?_⟩
    have h1 := (r5 (h s List.mem_cons_self) hx).1
    have h2 := (AD8 hl y hy).1
    have h3 := hs.2.1
    omega
theorem u5 : ∀ {l : List TState} {i : Nat} {a u : Int} {o : List TFeedItem}, (∀ s ∈ l, goodCells s.Cells = true) → i + l.length ≤ 4 → l23Feed o = true → (∀ x ∈ o, x.Group < (i : Int)) →
    (o.length + (allItems a u i l).length ≤ 400 → ∃ r, mergeN a u o i l = some r ∧ Srt r ∧ (∀ z, z ∈ r ↔ z ∈ o ∨ z ∈ allItems a u i l) ∧ l23Feed r = true) ∧ (400 < o.length + (allItems a u i l).length → mergeN a u o i l = none)
  | [], i, a, u, o, _, _, ho, _ => by
    have h3 := ((X1 o).1 ho)
    refine ⟨fun _ => ⟨o, rfl, h3.2.1, fun z => by unfold allItems; simp, ho⟩, fun h => ?_⟩
    have := h3.2.2
    unfold allItems at h; simp at h; omega
  | s :: l, i, a, u, o, hg, hi, ho, hog => by
    have hs := hg s List.mem_cons_self
    have hl := fun t ht => hg t (List.mem_cons_of_mem s ht)
    rw [J3] at hi
    have higr : isGroup (i : Int) = true := by unfold isGroup within; simp; omega
    obtain ⟨f1, f2, f3⟩ := AR2 hs higr a u
    obtain ⟨o1, o2, o3⟩ := (X1 o).1 ho
    obtain ⟨g1, g2, g3⟩ := (X1 _).1 f1
    have hcross : ∀ x ∈ o, ∀ y ∈ feedIn s.Cells i a u, Cmb x y := fun x hx y hy => AX1 fun hk => by
      have h1 := hog x hx
      have h2 := (r5 hs hy).1
      have h3 := hk.2.1
      omega
    have hcmb : ∀ x y, (x ∈ o ∨ x ∈ feedIn s.Cells i a u) → (y ∈ o ∨ y ∈ feedIn s.Cells i a u) → x ≠ y → Cmb x y := fun x y hx hy hne => by
      rcases hx with hx | hx <;> rcases hy with hy | hy
      · cases h1 : l23Ahead x y with
        | true => exact .inl h1
        | false => cases h2 : l23Ahead y x with
          | true => exact .inr h2
          | false => exact (hne (Aa2 o2 x hx y hy h1 h2)).elim
      · exact hcross x hx y hy
      · exact (hcross y hy x hx).symm
      · cases h1 : l23Ahead x y with
        | true => exact .inl h1
        | false => cases h2 : l23Ahead y x with
          | true => exact .inr h2
          | false => exact (hne (Aa2 g2 x hx y hy h1 h2)).elim
    obtain ⟨r, hr⟩ : ∃ r, mergeAll o (feedIn s.Cells i a u) = some r := by
      cases e : mergeAll o (feedIn s.Cells i a u) with
      | some r => exact ⟨r, rfl⟩
      | none =>
        obtain ⟨x, y, hx, hy, hne, h1, h2⟩ := AJ6 e
        rcases hcmb x y hx hy hne with k | k
        · rw [h1] at k; cases k
        · rw [h2] at k; cases k
    obtain ⟨r1, r2, r3⟩ := y5 o2 hr
    have hlen : r.length = o.length + (feedIn s.Cells i a u).length := by
      rw [← I5]
      refine Af6 (q9 (AC0 r1)) ?_ fun z => by rw [r2, List.mem_append]
      rw [List.nodup_append]
      exact ⟨q9 (AC0 o2), q9 (AC0 g2), fun x hx y hy => cmb_ne (hcross x hx y hy)⟩
    have hme : mergeF o (feedIn s.Cells i a u) = if 400 < r.length then ([], false) else (r, true) := by unfold mergeF; rw [if_pos ⟨ho, f1⟩, hr]
    unfold mergeN allItems
    rw [I5, hme]
    by_cases hbig : 400 < r.length
    · rw [if_pos hbig, if_neg (by simp)]
      exact ⟨fun h => by omega, fun _ => rfl⟩
    · rw [if_neg hbig, if_pos rfl]
      have hrf : l23Feed r = true := (X1 r).2 ⟨fun x hx => ((r2 x).1 hx).elim (o1 x) (g1 x), r1, by omega⟩
      obtain ⟨i1, i2⟩ := u5 (l := l) (i := i + 1) (a := a) (u := u) (o := r) hl (by omega) hrf fun x hx => by
        rcases (r2 x).1 hx with hx | hx
        · have := hog x hx; omega
        · have := (r5 hs hx).1; omega
      refine ⟨fun h => ?_, fun h => i2 (by omega)⟩
      obtain ⟨q, q1, q2, q3, q4⟩ := i1 (by omega)
      exact ⟨q, q1, q2, fun z => by rw [q3, r2, List.mem_append, or_assoc], q4⟩
theorem next_eq {l : List TState} {a u : Int} {l' : List TFeedItem} (hg : ∀ s ∈ l, goodCells s.Cells = true) (hl : l.length ≤ 4) (hp : l'.Perm (allItems a u 0 l)) (hs : SortedOn l23Ahead l' 0 l'.length) : (if isFeed l' = true then some l' else none) = mergeN a u [] 0 l := by
  have hsr := AX3 hp (An8 hg) hs
  obtain ⟨m1, m2⟩ := u5 (l := l) (i := 0) (a := a) (u := u) (o := []) hg (by omega) (by decide) (fun x hx => by cases hx)
  have hlen := hp.length_eq
  simp only [L6, Nat.zero_add] at m1 m2
  by_cases h : l'.length ≤ 400
  · obtain ⟨r, r1, r2, r3, _⟩ := m1 (by omega)
    rw [if_pos ((AW8 _).2 ⟨hsr, h⟩), r1]
    exact congrArg some (AO6 hsr r2 fun z => by rw [r3, hp.mem_iff]; simp)
  · rw [if_neg fun k => h ((AW8 _).1 k).2, m2 (by omega)]
end Go.M

namespace Go.M
open Go.AV
end Go.M

namespace Go.M
open Go.AV
def areStates (l : List TState) : Bool := within (l.length : Int) 1 4 && l.all goodState
def sureL (l : List TState) : Int := l.foldl (fun o s => min o (settled s)) 100000
def sureR (l : List TState) : Int × Bool := if areStates l = true then (sureL l, true) else (0, false)
def mxI (a b : Int) : Int := if b > a then b else a
def nextR (d : Int) (l : List TState) : Int × List TFeedItem × Bool :=
  if (isTrue d && areStates l) = true then (match mergeN d (mxI d (sureL l)) [] 0 l with | some r => (mxI d (sureL l), r, true) | none => (0, [], false)) else (0, [], false)
theorem Af7 {x : Int} : ∀ {l : List TState} {o : Int}, x ≤ l.foldl (fun o s => min o (settled s)) o ↔ x ≤ o ∧ ∀ s ∈ l, x ≤ settled s
  | [], o => by simp
  | s :: l, o => by
    rw [List.foldl_cons, Af7]
    constructor
    · rintro ⟨a, b⟩
      refine ⟨by omega, fun k hk => ?_⟩
      rcases List.mem_cons.1 hk with rfl | hk
      · omega
      · exact b k hk
    · rintro ⟨a, b⟩
      have := b s List.mem_cons_self
      exact ⟨by omega, fun k hk => b k (List.mem_cons_of_mem _ hk)⟩
theorem An9 {l : List TState} {x : Int} : x ≤ sureL l ↔ x ≤ 100000 ∧ ∀ s ∈ l, x ≤ settled s := Af7
theorem Af8 {l : List TState} (h : ∀ s ∈ l, goodState s = true) : 0 ≤ sureL l ∧ sureL l ≤ 100000 :=
  ⟨An9.2 ⟨by decide, fun s hs => AZ9 (m8.1 (h s hs))⟩, (An9.1 (Int.le_refl _)).1⟩
theorem o7 (a b : Int) : (mxI a b = a ∧ b ≤ a) ∨ (mxI a b = b ∧ a < b) := by
  unfold mxI; split
  · exact .inr ⟨rfl, by omega⟩
  · exact .inl ⟨rfl, by omega⟩
theorem g6 {l : List TState} : areStates l = true ↔ 1 ≤ l.length ∧ l.length ≤ 4 ∧ ∀ s ∈ l, goodState s = true := by
  unfold areStates within
  simp only [Bool.and_eq_true, decide_eq_true_eq, List.all_eq_true]
  constructor
  · rintro ⟨⟨a, b⟩, c⟩; exact ⟨by omega, by omega, c⟩
  · rintro ⟨a, b, c⟩; exact ⟨⟨by omega, by omega⟩, c⟩
theorem BB7 {n : Int} (h : 0 ≤ n ∧ n ≤ 100000) : isTrue n = true := by
  unfold isTrue within; simp only [Bool.and_eq_true, decide_eq_true_eq]; omega
theorem Af9 {n : Int} (h : isTrue n = true) : 0 ≤ n ∧ n ≤ 100000 := by
  unfold isTrue within at h; simp only [Bool.and_eq_true, decide_eq_true_eq] at h; omega
theorem k6 {l : List TState} (h : ∀ s ∈ l, goodState s = true) : ∀ s ∈ l, goodCells s.Cells = true := fun s hs => (m8.1 (h s hs)).cells
theorem AX4 {s : TState} (h : goodCells s.Cells = true) {g a u : Int} {z : TFeedItem} : z ∈ feedIn s.Cells g a u ↔ z ∈ rawItems s.Cells g a u :=
  (f0 (c6 h).1 (c6 h).2 g a u).2 z
theorem raw_time {l : List TCell} {g a u b w : Int} {z : TFeedItem} (ha : a ≤ b) (hw : w ≤ u) : z ∈ rawItems l g b w ↔ z ∈ rawItems l g a u ∧ b < z.Time ∧ z.Time ≤ w := by
  rw [r4, r4]
  constructor
  · rintro ⟨c, hc, v, hv, ht, rfl⟩
    exact ⟨⟨c, hc, v, hv, ⟨by omega, by omega⟩, rfl⟩, ht⟩
  · rintro ⟨⟨c, hc, v, hv, ht, rfl⟩, h1, h2⟩
    exact ⟨c, hc, v, hv, ⟨h1, h2⟩, rfl⟩
theorem Ao0 {a u b w : Int} {z : TFeedItem} (ha : a ≤ b) (hw : w ≤ u) : ∀ {l : List TState} {i : Nat}, (∀ s ∈ l, goodCells s.Cells = true) → (z ∈ allItems b w i l ↔ z ∈ allItems a u i l ∧ b < z.Time ∧ z.Time ≤ w)
  | [], i, _ => by unfold allItems; simp
  | s :: l, i, h => by
    have hs := h s List.mem_cons_self
    have ih := Ao0 (z := z) ha hw (l := l) (i := i + 1) fun t ht => h t (List.mem_cons_of_mem _ ht)
    unfold allItems
    rw [List.mem_append, List.mem_append, AX4 hs, AX4 hs, raw_time ha hw, ih]
    constructor
    · rintro (⟨h1, h2⟩ | ⟨h1, h2⟩)
      · exact ⟨.inl h1, h2⟩
      · exact ⟨.inr h1, h2⟩
    · rintro ⟨h1 | h1, h2⟩
      · exact .inl ⟨h1, h2⟩
      · exact .inr ⟨h1, h2⟩
theorem AT7 {a : Int} : ∀ {l : List TState} {i : Nat}, (∀ s ∈ l, goodCells s.Cells = true) → ∀ z, z ∉ allItems a a i l := fun h z hz => by
  have := AD8 h z hz
  omega
theorem AI7 {a u : Int} {l : List TState} {r : List TFeedItem} (hg : ∀ s ∈ l, goodCells s.Cells = true) (hl : l.length ≤ 4) (h : mergeN a u [] 0 l = some r) : Srt r ∧ (∀ z, z ∈ r ↔ z ∈ allItems a u 0 l) ∧ l23Feed r = true := by
  obtain ⟨m1, m2⟩ := u5 (l := l) (i := 0) (a := a) (u := u) (o := []) hg (by omega) (by decide) (fun x hx => by cases hx)
  simp only [L6, Nat.zero_add] at m1 m2
  by_cases hle : (allItems a u 0 l).length ≤ 400
  · obtain ⟨q, q1, q2, q3, q4⟩ := m1 hle
    rw [q1] at h; injection h with h; subst h
    exact ⟨q2, fun z => by rw [q3]; simp, q4⟩
  · rw [m2 (by omega)] at h; cases h
theorem merge_ok {a u : Int} {l : List TState} (hg : ∀ s ∈ l, goodCells s.Cells = true) (hl : l.length ≤ 4) (h : (allItems a u 0 l).length ≤ 400) : ∃ r, mergeN a u [] 0 l = some r ∧ Srt r ∧ (∀ z, z ∈ r ↔ z ∈ allItems a u 0 l) ∧ l23Feed r = true := by
  obtain ⟨m1, _⟩ := u5 (l := l) (i := 0) (a := a) (u := u) (o := []) hg (by omega) (by decide) (fun x hx => by cases hx)
  simp only [L6, Nat.zero_add] at m1
  obtain ⟨q, q1, q2, q3, q4⟩ := m1 h
  exact ⟨q, q1, q2, fun z => by rw [q3]; simp, q4⟩
theorem AD9 {d : Int} {l : List TState} (h : (nextR d l).2.2 = true) : ∃ r, isTrue d = true ∧ areStates l = true ∧ mergeN d (mxI d (sureL l)) [] 0 l = some r ∧ nextR d l = (mxI d (sureL l), r, true) := by
  unfold nextR at h ⊢
  by_cases hc : (isTrue d && areStates l) = true
  · rw [if_pos hc] at h ⊢
    rw [Bool.and_eq_true] at hc
    cases e : mergeN d (mxI d (sureL l)) [] 0 l with
    | none => rw [e] at h; cases h
    | some r => exact ⟨r, hc.1, hc.2, rfl, rfl⟩
  · rw [if_neg hc] at h; cases h
theorem next_not {d : Int} {l : List TState} (h : (nextR d l).2.2 = false) : nextR d l = (0, [], false) := by
  unfold nextR at h ⊢
  by_cases hc : (isTrue d && areStates l) = true
  · rw [if_pos hc] at h ⊢
    cases e : mergeN d (mxI d (sureL l)) [] 0 l with
    | none => rfl
    | some r => rw [e] at h; cases h
  · rw [if_neg hc]
theorem Ax7 {d : Int} {l : List TState} (h : (nextR d l).2.2 = true) : nextR (nextR d l).1 l = ((nextR d l).1, [], true) := by
  obtain ⟨r, h1, h2, h3, h4⟩ := AD9 h
  rw [h4]
  dsimp only
  obtain ⟨a1, a2, a3⟩ := g6.1 h2
  have hs := Af8 a3
  have hd := Af9 h1
  have hm : mxI (mxI d (sureL l)) (sureL l) = mxI d (sureL l) := by rcases o7 d (sureL l) with ⟨e, h⟩ | ⟨e, h⟩ <;> rcases o7 (mxI d (sureL l)) (sureL l) with ⟨e2, h2⟩ | ⟨e2, h2⟩ <;> omega
  have ht : isTrue (mxI d (sureL l)) = true := BB7 (by rcases o7 d (sureL l) with ⟨e, h⟩ | ⟨e, h⟩ <;> omega)
  have hg := k6 a3
  obtain ⟨q, q1, q2, q3, _⟩ := merge_ok (a := mxI d (sureL l)) (u := mxI d (sureL l)) hg a2 (by
    rw [List.length_eq_zero_iff.2 (List.eq_nil_iff_forall_not_mem.2 (AT7 hg))]; decide)
  have hq : q = [] := List.eq_nil_iff_forall_not_mem.2 fun z hz => AT7 hg z ((q3 z).1 hz)
  unfold nextR
  rw [if_pos (by rw [ht, h2]; rfl), hm, q1, hq]
theorem BB8 {d : Int} {l : List TState} (h : (nextR d l).2.2 = true) (hz : (nextR 0 l).2.2 = true) : (nextR 0 l).1 = sureL l ∧ (sureL l < d → (nextR d l).2.1 = []) ∧ (d ≤ sureL l → (nextR d l).1 = sureL l ∧ (nextR d l).2.1 = (nextR 0 l).2.1.filter fun x => decide (d < x.Time)) := by
  obtain ⟨r, h1, h2, h3, h4⟩ := AD9 h
  obtain ⟨q, k1, k2, k3, k4⟩ := AD9 hz
  obtain ⟨a1, a2, a3⟩ := g6.1 h2
  have hs := Af8 a3
  have hd := Af9 h1
  have hg := k6 a3
  rw [h4, k4]
  dsimp only
  have h0 : mxI 0 (sureL l) = sureL l := by rcases o7 0 (sureL l) with ⟨e, h⟩ | ⟨e, h⟩ <;> omega
  obtain ⟨r1, r2, _⟩ := AI7 hg a2 h3
  obtain ⟨q1, q2, _⟩ := AI7 hg a2 k3
  refine ⟨h0, fun hlt => ?_, fun hle => ?_⟩
  · have hm : mxI d (sureL l) = d := by rcases o7 d (sureL l) with ⟨e, h⟩ | ⟨e, h⟩ <;> omega
    rw [hm] at r2
    exact List.eq_nil_iff_forall_not_mem.2 fun z hz => AT7 hg z ((r2 z).1 hz)
  · have hm : mxI d (sureL l) = sureL l := by rcases o7 d (sureL l) with ⟨e, h⟩ | ⟨e, h⟩ <;> omega
    rw [hm] at r2 ⊢
    rw [h0] at q2
    refine ⟨rfl, AO6 r1 (List.Pairwise.sublist List.filter_sublist q1) fun z => ?_⟩
    rw [r2, List.mem_filter, q2, Ao0 (z := z) hd.1 (Int.le_refl (sureL l)) hg, decide_eq_true_eq]
    constructor
    · rintro ⟨x, y, _⟩; exact ⟨x, y⟩
    · rintro ⟨x, y⟩; exact ⟨x, y, (AD8 hg z x).2.2⟩
structure Fed (A : List TFeedItem) (F : Int) (p q : TState) : Prop where
  srt : Srt A
  mem : ∀ z, z ∈ A ↔ z ∈ allItems 0 F 0 [p, q]
  pos : 0 ≤ F
end Go.M

set_option maxHeartbeats 2000000
namespace Go.M
open Go.AV
theorem Ag0 {l : List TState} {i : Nat} {x : TState} (h : l[i]? = some x) : sureL (l.take (i + 1)) = min (sureL (l.take i)) (settled x) := by
  unfold sureL; rw [List.take_add_one, h, List.foldl_append]; rfl
theorem min_if (a b : Int) : (if b < a then b else a) = min a b := by rw [Int.min_def]; split <;> split <;> omega
theorem BB9 (a b : Int) : leastI a b = min a b := by unfold leastI; rw [Int.min_def]; split <;> split <;> omega
theorem Ao1 (l : List TState) : (!l.any fun s => !goodState s) = l.all goodState := by
  induction l with
  | nil => rfl
  | cons x l ih => rw [List.any_cons, List.all_cons, ← ih]; cases goodState x <;> simp
theorem Ax8 {l : List TState} {x : TState} (hx : x ∈ l) (h : goodState x = false) : areStates l = false := by
  unfold areStates
  rw [show l.all goodState = false from List.all_eq_false.2 ⟨x, hx, by rw [h]; decide⟩, Bool.and_false]
end Go.M
namespace Go.Proofs.YtkegepoihkhihaaGreat
open Go Go.AV Go.M
attribute [local irreducible] OpW OpA OpS AWP FSpec ESpec GSpec OpE RetOk RetOkG RvDen Le Ev GuardIs SrcIs SrcE Int.tmod IntKind.wrap bandI
theorem AX5 (s : TState) (hs : s.size ≤ 1048576) : FSpec Tryz.prog 84 [AV.agg s.cs] (AV.bool (!goodState s)) := by
 refine E5 Tryz.func84 rfl Tryz.ntmps84 rfl ?_
 refine A3 (A2 ?_)
 refine N8 rfl rfl rfl rfl (A0 rfl) ?_
 intro b1
 refine A1 rfl (B7 rfl F5) ?_
 refine A4 (A3 (A2 ?_))
 refine A1 rfl (F7 0 rfl (A0 rfl) rfl E2 C2 rfl) ?_
 refine A1 rfl (E4 rfl Tryz.call50 rfl (AZ8 _ (by first | assumption | omega)) (A7 (A0 rfl) C6)) ?_
 refine A1 rfl (M2 rfl (A0 rfl)) ?_
 refine B5 rfl ?_
 refine A4 ?_
 refine C5 ?_
 exact H5 rfl (C3 rfl (by rfl))
theorem Aa6 (l : List TState) (hs : ∀ s ∈ l, s.size ≤ 1048576) : FSpec Tryz.prog 40 [AV.list 4 (l.map TState.cs)] (AV.bool (areStates l)) := by
 refine E5 Tryz.func40 rfl Tryz.ntmps40 rfl ?_
 refine A3 (A2 ?_)
 refine A1 rfl (B7 rfl F5) ?_
 refine A4 (A3 (A2 ?_))
 refine A5 rfl ?_
 refine A1 rfl (G9 rfl O2 (A0 rfl)) ?_
 refine A1 rfl (E4 rfl Tryz.call82 rfl (a7 _ _ _) (A7 (A0 rfl) (A7 B6 (A7 B6 C6)))) ?_
 refine A5 rfl ?_
 refine C9 rfl (fun hc => C1 rfl (A0 rfl)) ?_
 refine C9 rfl (fun hc => E4 rfl Tryz.call83 rfl (AE4 l (fun s => s.size ≤ 1048576) (fun s => !goodState s) hs) (A7 (A6 rfl hc) (A7 (As1 Tryz.call84 (fun s h => AX5 s h)) C6))) ?_
 refine C9 rfl (fun hc => M2 rfl (A6 rfl hc)) ?_
 refine A1 rfl (H6 rfl (A0 rfl) (F6 rfl)) ?_
 refine B5 rfl ?_
 refine A4 ?_
 refine C5 ?_
 exact H5 rfl (C3 rfl (by exact congrArg AV.bool (by unfold areStates; rw [← Ao1, A8])))
theorem Ar2 (l : List TState) (hg : ∀ s ∈ l, goodState s = true) : FSpec Tryz.prog 41 [AV.list 4 (l.map TState.cs)] (AV.int (sureL l)) := by
 refine E5 Tryz.func41 rfl Tryz.ntmps41 rfl ?_
 refine U1 (t := 0) rfl fun hl => ?_
 try simp only [A8] at hl
 refine A3 (A2 ?_)
 refine A1 rfl (B7 rfl B6) ?_
 refine A4 (A3 (A2 ?_))
 refine A1 rfl (B7 rfl B6) ?_
 refine A4 (A3 (A3 (A2 ?_)))
 refine A5 rfl ?_
 refine A1 rfl (G9 rfl O2 (A0 rfl)) ?_
 refine A1 rfl (C1 rfl B6) ?_
 refine A4 (C8 ?_)
 refine J1 [(2, _), (6, _), (7, _)] _ (fun (i : Nat) => i ≤ l.length) (fun (i : Nat) => []) (fun (i : Nat) => [(3, AV.int (sureL (l.take i))), (8, AV.int i)]) (fun (i : Nat) => l.length - i) (0) ?_ (P8 (by rfl) ⟨rfl, rfl, rfl, rfl, rfl, trivial⟩) ?_
 ·exact Nat.zero_le _
 intro i hinv
 refine A3 (A2 ?_)
 refine A1 rfl (J6 rfl (A0 rfl) (A0 rfl)) ?_
 refine A4 (A3 ?_)
 refine C4 (A0 rfl) ?_ ?_
 ·intro h9
  have k9 := of_decide_eq_true h9; try simp only [A8] at k9
  have hlt : i < l.length := by omega
  obtain ⟨x, hx⟩ := get_some hlt
  have hxg := hg x (G4 hx)
  refine C7 (A3 (C8 (A3 (A2 ?_))))
  refine A1 rfl (I9 rfl O2 C2 (A0 rfl) (A0 rfl) hx (by first | omega | (simp only [D3, A9, szR] at *; omega))) ?_
  refine A1 rfl (K6 rfl (A0 rfl) E2 C2) ?_
  refine F9 rfl rfl rfl rfl Tryz.zeroValue43 rfl ?_
  intro b5
  refine D6 0 rfl rfl rfl (A0 rfl) (A0 rfl) (E7 _) rfl C2 rfl ?_
  refine A4 (A2 ?_)
  refine A5 rfl ?_
  refine A1 rfl (F7 0 rfl (A0 rfl) rfl E2 C2 rfl) ?_
  refine A1 rfl (E4 rfl Tryz.call85 rfl (Am6 x hxg) (A7 (A0 rfl) C6)) ?_
  refine A1 rfl (w_min rfl (A0 rfl) (A0 rfl)) ?_
  refine B5 rfl ?_
  refine A4 (A2 ?_)
  refine A1 rfl (G8 rfl (A0 rfl) B6 (by first | omega | (simp only [D3, A9, szR] at *; omega))) ?_
  refine A5 rfl ?_
  refine A4 ?_
  refine L4 i (i + 1) ?_ ?_ (Le.trans (H4 [0] rfl) (L7 1 (by rfl) ⟨(congrArg (fun z => some (AV.int z)) (by rw [Ag0 hx, min_if])), rfl, rfl, rfl, rfl, trivial⟩))
  ·exact (by omega)
  omega
 intro h9
 have k9 := of_decide_eq_false h9; try simp only [A8] at k9
 have hge : l.length ≤ i := by omega
 rw [List.take_of_length_le hge]
 refine G6 ?_
 refine A3 (A2 ?_)
 refine A5 rfl ?_
 refine B5 rfl ?_
 refine A4 ?_
 refine C5 ?_
 exact H5 rfl (C3 rfl (by rfl))
theorem Ao2 (l : List TState) (hs : ∀ s ∈ l, s.size ≤ 1048576) : FSpec Tryz.prog 10 [AV.list 4 (l.map TState.cs)] (AV.tup [AV.int (sureR l).1, AV.bool (sureR l).2]) := by
 refine E5 Tryz.func10 rfl Tryz.ntmps10 rfl ?_
 refine U1 (t := 0) rfl fun hl => ?_
 try simp only [A8] at hl
 refine A3 (A2 ?_)
 refine A1 rfl (B7 rfl B6) ?_
 refine A1 rfl (B7 rfl F5) ?_
 refine A4 (A3 (A2 ?_))
 refine A1 rfl (B7 rfl B6) ?_
 refine A4 (A3 (A3 (A2 ?_)))
 refine A1 rfl (B7 rfl B6) ?_
 refine A4 (C8 ?_)
 refine J1 [(0, _)] _ (fun (i : Nat) => i ≤ l.length ∧ ∀ s ∈ l.take i, goodState s = true) (fun (i : Nat) => []) (fun (i : Nat) => [(4, AV.int (sureL (l.take i))), (5, AV.int i)]) (fun (i : Nat) => l.length - i) (0) ?_ (P8 (by rfl) ⟨rfl, rfl, rfl, trivial⟩) ?_
 ·exact ⟨Nat.zero_le _, fun s hs => by cases hs⟩
 intro i hinv
 refine A3 (A3 (A2 ?_))
 refine A5 rfl ?_
 refine A5 rfl ?_
 refine A1 rfl (G9 rfl O2 (A0 rfl)) ?_
 refine A1 rfl (J6 rfl (A0 rfl) (A0 rfl)) ?_
 refine A4 ?_
 refine C4 (A0 rfl) ?_ ?_
 ·intro h11
  have k11 := of_decide_eq_true h11; try simp only [A8] at k11
  have hlt : i < l.length := by (simpa using h11)
  obtain ⟨x, hx⟩ := get_some hlt
  have hxm := G4 hx
  have hxs := hs x hxm
  refine C7 (A3 (C8 (A3 (A2 ?_))))
  refine A5 rfl ?_
  refine A5 rfl ?_
  refine A1 rfl (I9 rfl O2 C2 (A0 rfl) (A0 rfl) hx (by first | omega | (simp only [D3, A9, szR] at *; omega))) ?_
  refine A1 rfl (K6 rfl (A0 rfl) E2 C2) ?_
  refine A1 rfl (E4 rfl Tryz.call37 rfl (AW5 x hxs) (A7 (A0 rfl) C6)) ?_
  refine A5 rfl ?_
  refine A1 rfl (H8 rfl (A0 rfl) rfl) ?_
  refine A1 rfl (H8 rfl (A0 rfl) rfl) ?_
  refine B5 rfl ?_
  refine B5 rfl ?_
  refine A4 (A3 (A3 (A2 ?_)))
  refine A5 rfl ?_
  refine A1 rfl (M2 rfl (A0 rfl)) ?_
  refine A4 ?_
  refine C4 (A0 rfl) ?_ ?_
  ·intro h23
   have hxb : goodState x = false := (by unfold settledR at h23; cases hb : goodState x with | false => rfl | true => (rw [hb] at h23; simp at h23))
   have he : sureR l = (0, false) := (by unfold sureR; rw [if_neg (by rw [Ax8 hxm hxb]; decide)])
   rw [he]
   refine A3 (A2 ?_)
   refine A1 rfl (B7 rfl B6) ?_
   refine A1 rfl (B7 rfl F5) ?_
   refine A4 ?_
   refine C5 ?_
   exact Z7 rfl (by decide) (F4 (C3 rfl (by rfl)) (F4 (C3 rfl (by rfl)) M5))
  intro h23
  have hxg : goodState x = true := (by unfold settledR at h23; cases hb : goodState x with | true => rfl | false => (rw [hb] at h23; simp at h23))
  have hsr : settledR x = (settled x, true) := if_pos hxg
  rw [hsr]
  refine C7 (A2 ?_)
  refine A5 rfl ?_
  refine A5 rfl ?_
  refine A1 rfl (E4 rfl Tryz.call38 rfl (AM9 _ _) (A7 (A0 rfl) (A7 (A0 rfl) C6))) ?_
  refine B5 rfl ?_
  refine A4 (A2 ?_)
  refine A5 rfl ?_
  refine A1 rfl (G8 rfl (A0 rfl) B6 (by first | omega | (simp only [D3, A9, szR] at *; omega))) ?_
  refine B5 rfl ?_
  refine A4 ?_
  refine L4 i (i + 1) ?_ ?_ (P8 (by rfl) ⟨(congrArg (fun z => some (AV.int z)) (by rw [Ag0 hx, BB9])), rfl, rfl, trivial⟩)
  ·exact ⟨by omega, fun q hq => by (rw [List.take_add_one, hx] at hq; rcases List.mem_append.1 hq with hq | hq; (exact hinv.2 q hq); (simp at hq; rw [hq]; exact hxg))⟩
  omega
 intro h11
 have k11 := of_decide_eq_false h11; try simp only [A8] at k11
 have hge : l.length ≤ i := by (simpa using h11)
 have hall : ∀ s ∈ l, goodState s = true := fun s hm => hinv.2 s (by rw [List.take_of_length_le hge]; exact hm)
 rw [List.take_of_length_le hge]
 refine G6 ?_
 refine A3 (A3 (A2 ?_))
 refine A5 rfl ?_
 refine A1 rfl (G9 rfl O2 (A0 rfl)) ?_
 refine A1 rfl (E4 rfl Tryz.call39 rfl (V7 _ _ _) (A7 (A0 rfl) (A7 B6 (A7 B6 C6)))) ?_
 refine A1 rfl (M2 rfl (A0 rfl)) ?_
 refine A4 ?_
 refine C4 (A0 rfl) ?_ ?_
 ·intro h30
  have he : sureR l = (0, false) := (by unfold sureR; rw [if_neg (by unfold areStates; simp only [A8] at h30; simp_all)])
  rw [he]
  refine A3 (A2 ?_)
  refine A1 rfl (B7 rfl B6) ?_
  refine A1 rfl (B7 rfl F5) ?_
  refine A4 ?_
  refine C5 ?_
  exact Z7 rfl (by decide) (F4 (C3 rfl (by rfl)) (F4 (C3 rfl (by rfl)) M5))
 intro h30
 have he : sureR l = (sureL l, true) := (by unfold sureR; rw [if_pos (by unfold areStates; rw [List.all_eq_true.2 hall, Bool.and_true]; simpa using h30)])
 rw [he]
 refine C7 (A3 (A2 ?_))
 refine A5 rfl ?_
 refine B5 rfl ?_
 refine A1 rfl (B7 rfl F5) ?_
 refine A4 ?_
 refine C5 ?_
 exact Z7 rfl (by decide) (F4 (C3 rfl (by rfl)) (F4 (C3 rfl (by rfl)) M5))
end Go.Proofs.YtkegepoihkhihaaGreat

set_option maxHeartbeats 1000000
namespace Go.Proofs.YtkegepoihkhihaaGreat
open Go Go.AV Go.M
attribute [local irreducible] OpW OpA OpS AWP FSpec ESpec GSpec OpE RetOk RetOkG RvDen Le Ev GuardIs SrcIs
theorem s5 (x y : TFeedItem) : (x.Time == y.Time && (x.Group == y.Group && (x.Key == y.Key && (x.Val == y.Val && (x.Gone == y.Gone && true))))) = decide (x = y) := by
  cases x; cases y
  rw [Bool.eq_iff_iff]
  simp
end Go.Proofs.YtkegepoihkhihaaGreat

set_option linter.unusedSectionVars false
namespace Go.M
open Go.AV
section
variable {α : Type} [Inhabited α]
structure Rot (l t : List α) (a m b : Nat) : Prop where
  out : ∀ k, k < a ∨ b ≤ k → t[k]? = l[k]?
  fst : ∀ k, k < b - m → t[a + k]? = l[m + k]?
  snd : ∀ k, k < m - a → t[a + (b - m) + k]? = l[a + k]?
end
end Go.M

namespace Go.M
open Go.AV
section
variable {α : Type} [Inhabited α] {lt : α → α → Bool}
section
variable {l t : List α} {a p m q b c : Nat}
end
end
end Go.M

namespace Go.M
open Go.AV
section
variable {α : Type} [Inhabited α] {lt : α → α → Bool}
end
end Go.M

namespace Go.M
open Go.AV
section
variable {α : Type} [Inhabited α] {lt : α → α → Bool}
end
end Go.M

namespace Go.Proofs.YtkegepoihkhihaaGreat
open Go Go.AV Go.M
attribute [local irreducible] OpW OpA OpS AWP FSpec ESpec GSpec OpE RetOk RetOkG RvDen Le Ev GuardIs SrcIs Int.tmod Int.tdiv IntKind.wrap
end Go.Proofs.YtkegepoihkhihaaGreat

namespace Go.Proofs.YtkegepoihkhihaaGreat
open Go Go.AV Go.M
attribute [local irreducible] OpW OpA OpS AWP FSpec ESpec GSpec OpE RetOk RetOkG RvDen Le Ev GuardIs SrcIs Int.tmod Int.tdiv IntKind.wrap
end Go.Proofs.YtkegepoihkhihaaGreat

namespace Go.Proofs.YtkegepoihkhihaaGreat
open Go Go.AV Go.M
attribute [local irreducible] OpW OpA OpS AWP FSpec ESpec GSpec OpE RetOk RetOkG RvDen Le Ev GuardIs SrcIs Int.tmod Int.tdiv IntKind.wrap
end Go.Proofs.YtkegepoihkhihaaGreat

namespace Go.Proofs.YtkegepoihkhihaaGreat
open Go Go.AV Go.M
attribute [local irreducible] OpW OpA OpS AWP FSpec ESpec GSpec OpE RetOk RetOkG RvDen Le Ev GuardIs SrcIs
theorem Ag1 (l : List TFeedItem) (k : Nat) (x : TFeedItem) : (l.take k ++ x :: l.drop k).map TFeedItem.cs = ([] ++ (l.map TFeedItem.cs).take (k : Int).toNat ++ [x.cs]) ++ (l.map TFeedItem.cs).drop (k : Int).toNat := by simp
theorem AX6 (v : Value) (l : List TFeedItem) (x : TFeedItem) (hl : l.length ≤ 2097152) : GSpec Tryz.prog 69 [AV.is v, AV.agg x.cs] [.arr v 63 5 (l.map TFeedItem.cs)]
   (fun _ : Value => True) (fun v' => [.arr v' 63 5 ((putR l x).1.map TFeedItem.cs)]) (fun v' => AV.tup [AV.is v', AV.bool (putR l x).2]) := by
 refine J9 Tryz.func69 rfl Tryz.ntmps69 rfl ?_
 refine A3 (A2 ?_)
 refine N8 rfl rfl rfl rfl (A0 rfl) ?_
 intro b3
 refine A1 rfl (B7 rfl O7) ?_
 refine A1 rfl (B7 rfl F5) ?_
 refine A4 (A3 (A2 ?_))
 refine A1 rfl (B7 rfl B6) ?_
 refine A4 (A3 (C8 ?_))
 refine J1 [(0, _), (3, _), (4, _), (5, _)] _ (fun (k : Nat) => k ≤ l.length ∧ ∀ i y, i < k → l[i]? = some y → l23Ahead y x = true) (fun (k : Nat) => []) (fun (k : Nat) => [(6, AV.int k)]) (fun (k : Nat) => l.length - k) (0) ?_ (K0 ⟨rfl, rfl, rfl, rfl, rfl, trivial⟩) ?_
 ·exact ⟨Nat.zero_le _, fun i y h => by omega⟩
 intro k hinv
 obtain ⟨y, hy0⟩ := AA5 l k
 refine A3 (A3 ?_)
 refine I8 (by kernel_rfl) (by kernel_rfl) rfl ?_
 refine B2 rfl rfl (C1 rfl (A0 rfl)) ?_
 refine B2 rfl rfl (C1 rfl (A0 rfl)) ?_
 refine B2 rfl rfl (W1 1 rfl F3 (A0 rfl) rfl) ?_
 refine B2 rfl rfl (J6 rfl (A0 rfl) (A0 rfl)) ?_
 refine B2 rfl rfl (C1 rfl (A0 rfl)) ?_
 refine D2 rfl (H1 rfl rfl rfl) (fun hc => C1 rfl (A0 rfl)) ?_
 refine D2 rfl (H1 rfl rfl rfl) (fun hc => C1 rfl (A0 rfl)) ?_
 refine D2 rfl (H1 rfl rfl rfl) (fun hc => W5 1 rfl F3 H9 (A6 rfl hc) rfl (A6 rfl hc) (by omega) (by have := of_decide_eq_true hc; simpa using this)) ?_
 refine D2 rfl (H1 rfl rfl rfl) (fun hc => d7 1 rfl (A6 rfl hc) rfl T1 H9 (by have h9 := of_decide_eq_true hc; simp only [Int.toNat_natCast, List.getElem?_map]; rw [hy0 (by simpa using h9)]; rfl) (by decide)) ?_
 refine D2 rfl (H1 rfl rfl rfl) (fun hc => F7 0 rfl (A0 rfl) rfl T1 H9 rfl) ?_
 refine D2 rfl (H1 rfl rfl rfl) (fun hc => E4 rfl Tryz.call109 rfl (w9 _ _) (A7 (A6 rfl hc) (A7 (A6 rfl hc) C6))) ?_
 refine B2 rfl rfl (H6 rfl (A0 rfl) (F6 rfl)) ?_
 refine P1 ?_
 refine C4 (A0 rfl) ?_ ?_
 ·intro h18
  have hkt : k < l.length ∧ l23Ahead y x = true := by simpa using h18
  refine C7 (C8 (A2 ?_))
  refine A5 rfl ?_
  refine A1 rfl (G8 rfl (A0 rfl) B6 (by first | omega | (simp only [D3, A9, szR] at *; omega))) ?_
  refine B5 rfl ?_
  refine A4 ?_
  refine i8 ?_
  refine L4 k (k + 1) ?_ ?_ (K0 ⟨rfl, rfl, rfl, rfl, rfl, trivial⟩)
  ·exact ⟨by have := hkt.1; omega, fun i z hi hz => if e : i = k then (by subst e; rw [hy0 hkt.1] at hz; injection hz with hz; subst hz; exact hkt.2) else hinv.2 i z (by omega) hz⟩
  omega
 intro h18
 have hng : k < l.length → l23Ahead y x = false := fun h => by simpa [h] using h18
 refine G6 ?_
 refine A3 (A3 ?_)
 refine I8 (by kernel_rfl) (by kernel_rfl) rfl ?_
 refine B2 rfl rfl (C1 rfl (A0 rfl)) ?_
 refine B2 rfl rfl (C1 rfl (A0 rfl)) ?_
 refine B2 rfl rfl (W1 1 rfl F3 (A0 rfl) rfl) ?_
 refine B2 rfl rfl (J6 rfl (A0 rfl) (A0 rfl)) ?_
 refine B2 rfl rfl (C1 rfl (A0 rfl)) ?_
 refine D2 rfl (H1 rfl rfl rfl) (fun hc => F7 0 rfl (A0 rfl) rfl T1 H9 rfl) ?_
 refine D2 rfl (H1 rfl rfl rfl) (fun hc => C1 rfl (A0 rfl)) ?_
 refine D2 rfl (H1 rfl rfl rfl) (fun hc => C1 rfl (A0 rfl)) ?_
 refine D2 rfl (H1 rfl rfl rfl) (fun hc => W5 1 rfl F3 H9 (A6 rfl hc) rfl (A6 rfl hc) (by omega) (by have := of_decide_eq_true hc; simpa using this)) ?_
 refine D2 rfl (H1 rfl rfl rfl) (fun hc => d7 1 rfl (A6 rfl hc) rfl T1 H9 (by have h9 := of_decide_eq_true hc; simp only [Int.toNat_natCast, List.getElem?_map]; rw [hy0 (by simpa using h9)]; rfl) (by decide)) ?_
 refine D2 rfl (H1 rfl rfl rfl) (fun hc => E4 rfl Tryz.call109 rfl (w9 _ _) (A7 (A6 rfl hc) (A7 (A6 rfl hc) C6))) ?_
 refine D2 rfl (H1 rfl rfl rfl) (fun hc => M2 rfl (A6 rfl hc)) ?_
 refine B2 rfl rfl (H6 rfl (A0 rfl) (F6 rfl)) ?_
 refine P1 ?_
 refine C4 (A0 rfl) ?_ ?_
 ·intro h33
  have hk2 : k < l.length ∧ l23Ahead x y = false := by simpa using h33
  rw [BB3 hinv.1 hinv.2 (hy0 hk2.1) hk2.2 (hng hk2.1)]
  refine A3 ?_
  refine I8 (by kernel_rfl) (by kernel_rfl) rfl ?_
  refine B2 rfl rfl (C1 rfl (A0 rfl)) ?_
  refine B2 rfl rfl (C1 rfl (A0 rfl)) ?_
  refine B2 rfl rfl (C1 rfl (A0 rfl)) ?_
  refine B2 rfl rfl (W5 1 rfl F3 H9 (A0 rfl) rfl (A0 rfl) (by omega) (by simp only [A8]; omega)) ?_
  refine B2 rfl rfl (d7 1 rfl (A0 rfl) rfl T1 H9 (by simp only [Int.toNat_natCast, List.getElem?_map]; rw [hy0 hk2.1]; rfl) (by decide)) ?_
  refine B2 rfl rfl (F7 0 rfl (A0 rfl) rfl T1 H9 rfl) ?_
  refine B2 rfl rfl (AU6 rfl K7 (by kernel_rfl) (by kernel_rfl) (A0 rfl) (A0 rfl) (X4 (by kernel_rfl) B9 rfl rfl (n9 P5) (X4 (by kernel_rfl) B9 rfl rfl (n9 P5) (X4 (by kernel_rfl) G5 rfl rfl (AN9 M9) (X4 (by kernel_rfl) G5 rfl rfl (AN9 M9) (X4 (by kernel_rfl) L8 rfl rfl (Ak0 Z5) AA4)))))) ?_
  refine B2 rfl rfl (B7 rfl (A0 rfl)) ?_
  refine B2 rfl rfl (B7 rfl (A0 rfl)) ?_
  refine P1 ?_
  refine C5 ?_
  exact N5 [1] v (trivial) rfl (by first | rfl | exact congrArg (fun z => [Own.arr _ 63 5 z]) (Ag1 _ _ _)) (W6 rfl (by decide) (F4 (C3 rfl (by first | rfl | exact congrArg AV.bool (s5 _ _))) (F4 (C3 rfl (by first | rfl | exact congrArg AV.bool (s5 _ _))) M5)))
 intro h33
 rw [putR_end hinv.1 hinv.2 (fun z hz => by (have h7 := (List.getElem?_eq_some_iff.1 hz).1; rw [hy0 h7] at hz; injection hz with hz; subst hz; simpa [h7] using h33)) (fun z hz => by (have h7 := (List.getElem?_eq_some_iff.1 hz).1; rw [hy0 h7] at hz; injection hz with hz; subst hz; exact hng h7))]
 refine C7 (A3 ?_)
 refine U4 _ [(1, false), (2, false), (3, false), (5, false), (6, false), (8, false), (9, false), (10, false), (0, true), (4, true), (7, true), (11, true)] (by kernel_rfl) (by kernel_rfl) rfl o4 ?_
 refine G1 rfl rfl rfl (fun ext => C1 rfl (A0 rfl)) ?_
 refine G1 rfl rfl rfl (fun ext => C1 rfl (A0 rfl)) ?_
 refine G1 rfl rfl rfl (fun ext => w_ahiT 1 rfl F3 H9 (A0 rfl) rfl (A0 rfl) (by omega) (by simp only [A8]; omega)) ?_
 refine G1 rfl rfl rfl (fun ext => F7 0 rfl (A0 rfl) rfl T1 H9 rfl) ?_
 refine G1 rfl rfl rfl (fun ext => L0 rfl F3 H9 Tryz.zeroValue63 rfl rfl rfl rfl (D9 (A0 rfl) (E7 _) H7) rfl rfl) ?_
 refine G1 rfl rfl rfl (fun ext => C1 rfl (A0 rfl)) ?_
 refine G1 rfl rfl rfl (fun ext => C1 rfl (A0 rfl)) ?_
 refine G1 rfl rfl rfl (fun ext => Ai8 1 rfl F3 H9 (A0 rfl) rfl (A0 rfl) (by omega) (by simp only [A8]; omega)) ?_
 refine U2 rfl rfl rfl (Y1 rfl F3 H9) (fun a _ => (by first | exact F2 rfl | exact F2 (List.append_assoc _ _ _) | exact I7)) ?_
 intro v41 _
 refine U2 rfl rfl rfl (m6 (by' := 56) 2 rfl F3 Tryz.type63 rfl rfl rfl rfl rfl rfl (A0 rfl) (BA1 1 rfl (A0 rfl) (by simp only [A8, Int.toNat_natCast]; omega)) rfl (by simp only [L6, List.nil_append, I5, F0, List.length_drop, A8, J3, A9]; omega)) (fun a _ => (by first | exact F2 rfl | exact F2 (List.append_assoc _ _ _) | exact I7)) ?_
 intro v45_1 _
 refine U2 rfl rfl rfl (O6 (by' := 56) 2 rfl F3 Tryz.type63 rfl rfl rfl rfl rfl rfl (A0 rfl) (A0 rfl) rfl (by simp only [L6, List.nil_append, I5, F0, List.length_drop, A8, J3, A9]; omega)) (fun a _ => (by first | exact F2 rfl | exact F2 (List.append_assoc _ _ _) | exact I7)) ?_
 intro v48_2 _
 refine U2 rfl rfl rfl (m6 (by' := 56) 2 rfl F3 Tryz.type63 rfl rfl rfl rfl rfl rfl (A0 rfl) (BA0 1 rfl (A0 rfl) (by simp only [A8, Int.toNat_natCast]; omega)) rfl (by simp only [L6, List.nil_append, I5, F0, List.length_drop, A8, J3, A9]; omega)) (fun a _ => (by first | exact F2 rfl | exact F2 (List.append_assoc _ _ _) | exact I7)) ?_
 intro v52_3 _
 refine j7 ?_
 refine B5 rfl ?_
 refine A1 rfl (B7 rfl F5) ?_
 refine A4 ?_
 refine C5 ?_
 exact N5 [2] v52_3 (trivial) rfl (by first | rfl | exact congrArg (fun z => [Own.arr _ 63 5 z]) (Ag1 _ _ _)) (W6 rfl (by decide) (F4 (C3 rfl (by first | rfl | exact congrArg AV.bool (s5 _ _))) (F4 (C3 rfl (by first | rfl | exact congrArg AV.bool (s5 _ _))) M5)))

theorem Ax9 (a b : List TFeedItem) (hsa : sizeL TFeedItem.size a ≤ 1048576) (hsb : sizeL TFeedItem.size b ≤ 1048576) : GSpec Tryz.prog 31 [AV.list 5 (a.map TFeedItem.cs), AV.list 5 (b.map TFeedItem.cs)] []
   (fun _ : Value => True) (fun v' => [.arr v' 63 5 ((mergeF a b).1.map TFeedItem.cs)]) (fun v' => AV.tup [AV.is v', AV.bool (mergeF a b).2]) := by
 have hal : a.length ≤ 1048576 := Nat.le_trans O3 hsa
 have hbl : b.length ≤ 1048576 := Nat.le_trans O3 hsb
 refine J9 Tryz.func31 rfl Tryz.ntmps31 rfl ?_
 refine A3 (A2 ?_)
 refine A1 rfl (B7 rfl O7) ?_
 refine A1 rfl (B7 rfl F5) ?_
 refine A4 (A3 (A3 (A2 ?_)))
 refine A5 rfl ?_
 refine A1 rfl (E4 rfl Tryz.call68 rfl (AM0 _ (by assumption)) (A7 (A0 rfl) C6)) ?_
 refine A1 rfl (M2 rfl (A0 rfl)) ?_
 refine A5 rfl ?_
 refine J5 rfl (fun hc => C1 rfl (A0 rfl)) ?_
 refine J5 rfl (fun hc => E4 rfl Tryz.call68 rfl (AM0 _ (by assumption)) (A7 (A6 rfl hc) C6)) ?_
 refine J5 rfl (fun hc => M2 rfl (A6 rfl hc)) ?_
 refine A1 rfl (T5 rfl (A0 rfl) (F6 rfl)) ?_
 refine A4 ?_
 refine C4 (A0 rfl) ?_ ?_
 ·intro h17
  have hno : mergeF a b = ([], false) := if_neg (by intro h; rw [h.1, h.2] at h17; cases h17)
  rw [hno]
  refine A3 (A2 ?_)
  refine R7 rfl rfl rfl rfl F3 H9 ?_
  intro v18
  refine B5 rfl ?_
  refine A1 rfl (B7 rfl F5) ?_
  refine A4 ?_
  refine C5 ?_
  exact N5 [0] v18 (trivial) rfl (by rfl) (W6 rfl (by decide) (F4 (C3 rfl (by first | rfl | (refine congrArg AV.bool ?_; simp_all; done))) (F4 (C3 rfl (by first | rfl | (refine congrArg AV.bool ?_; simp_all; done))) M5)))
 intro h17
 have hgd : l23Feed a = true ∧ l23Feed b = true := by simpa using h17
 refine C7 (A3 (A2 ?_))
 refine R7 rfl rfl rfl rfl F3 H9 ?_
 intro v19
 refine A5 rfl ?_
 refine M0 (by' := 56) 0 rfl rfl rfl rfl F3 Tryz.type63 rfl rfl rfl rfl rfl rfl (A0 rfl) (A0 rfl) rfl (by first | omega | (simp only [D3, A9, szR] at *; omega)) ?_
 intro v21_1
 refine B5 rfl ?_
 refine A4 (A3 (A3 (A2 ?_)))
 refine A1 rfl (B7 rfl B6) ?_
 refine A4 (C8 ?_)
 refine X0 [(1, _)] _ (fun (i : Nat) (v : Value) (o : List TFeedItem) => i ≤ b.length ∧ mergeAll a b = mergeAll o (b.drop i) ∧ o.length ≤ a.length + i) (fun (i : Nat) (v : Value) (o : List TFeedItem) => [.arr v 63 5 (o.map TFeedItem.cs)]) (fun (i : Nat) (v : Value) (o : List TFeedItem) => [(6, AV.is v), (7, AV.int i)]) (fun (i : Nat) (v : Value) (o : List TFeedItem) => b.length - i) (0) (v21_1) (a) ?_ (P8 (by rfl) ⟨rfl, rfl, rfl, trivial⟩) ?_
 ·exact ⟨Nat.zero_le _, rfl, Nat.le_refl _⟩
 intro i v o hinv
 refine A3 (A3 (A2 ?_))
 refine A5 rfl ?_
 refine A5 rfl ?_
 refine A1 rfl (G9 rfl F3 (A0 rfl)) ?_
 refine A1 rfl (J6 rfl (A0 rfl) (A0 rfl)) ?_
 refine A4 ?_
 refine C4 (A0 rfl) ?_ ?_
 ·intro h25
  have k25 := of_decide_eq_true h25; try simp only [A8] at k25
  have hlt : i < b.length := by omega
  obtain ⟨x, hx⟩ := get_some hlt
  refine C7 (A3 (C8 (A3 (A2 ?_))))
  refine A5 rfl ?_
  refine A5 rfl ?_
  refine A5 rfl ?_
  refine A1 rfl (I9 rfl F3 H9 (A0 rfl) (A0 rfl) hx (by first | omega | (simp only [D3, A9, szR] at *; omega))) ?_
  refine A1 rfl (K6 rfl (A0 rfl) T1 H9) ?_
  refine J7 [0] rfl rfl rfl rfl Tryz.call69 rfl (AX6 v o x (by omega)) (A7 (A0 rfl) (A7 (A0 rfl) C6)) rfl ?_
  intro x34 ok34
  refine A5 rfl ?_
  refine A1 rfl (H8 rfl (A0 rfl) rfl) ?_
  refine A1 rfl (H8 rfl (A0 rfl) rfl) ?_
  refine B5 rfl ?_
  refine B5 rfl ?_
  refine A4 (A3 (A3 (A2 ?_)))
  refine A5 rfl ?_
  refine A1 rfl (M2 rfl (A0 rfl)) ?_
  refine A4 ?_
  refine C4 (A0 rfl) ?_ ?_
  ·intro h38
   have hno : mergeF a b = ([], false) := by (unfold mergeF; rw [if_pos hgd, Ai4 hinv.2.1 hx (by simpa using h38)])
   rw [hno]
   refine A3 (A2 ?_)
   refine R7 rfl rfl rfl rfl F3 H9 ?_
   intro v39
   refine B5 rfl ?_
   refine A1 rfl (B7 rfl F5) ?_
   refine A4 ?_
   refine C5 ?_
   exact N5 [0] v39 (trivial) rfl (by rfl) (W6 rfl (by decide) (F4 (C3 rfl (by first | rfl | (refine congrArg AV.bool ?_; simp_all; done))) (F4 (C3 rfl (by first | rfl | (refine congrArg AV.bool ?_; simp_all; done))) M5)))
  intro h38
  refine C7 (A2 ?_)
  refine A5 rfl ?_
  refine B5 rfl ?_
  refine A4 (A2 ?_)
  refine A5 rfl ?_
  refine A1 rfl (G8 rfl (A0 rfl) B6 (by first | omega | (simp only [D3, A9, szR] at *; omega))) ?_
  refine B5 rfl ?_
  refine A4 ?_
  refine W0 i v o (i + 1) (x34) ((putR o x).1) ?_ ?_ (P8 (by rfl) ⟨rfl, rfl, rfl, trivial⟩)
  ·exact ⟨by omega, Ai3 hinv.2.1 hx (by simpa using h38), by have := AI6 x o; omega⟩
  omega
 intro h25
 have k25 := of_decide_eq_false h25; try simp only [A8] at k25
 have hme := An6 hinv.2.1 (show b.length ≤ i by omega)
 refine G6 ?_
 refine A3 (A3 (A2 ?_))
 refine A5 rfl ?_
 refine A1 rfl (W1 0 rfl F3 (A0 rfl) rfl) ?_
 refine A1 rfl (O5 rfl (A0 rfl) B6) ?_
 refine A4 ?_
 refine C4 (A0 rfl) ?_ ?_
 ·intro h43
  have k43 := of_decide_eq_true h43; try simp only [A8] at k43
  have hno : mergeF a b = ([], false) := by (unfold mergeF; rw [if_pos hgd, hme]; exact if_pos (by omega))
  rw [hno]
  refine A3 (A2 ?_)
  refine R7 rfl rfl rfl rfl F3 H9 ?_
  intro v44
  refine B5 rfl ?_
  refine A1 rfl (B7 rfl F5) ?_
  refine A4 ?_
  refine C5 ?_
  exact N5 [0] v44 (trivial) rfl (by rfl) (W6 rfl (by decide) (F4 (C3 rfl (by first | rfl | (refine congrArg AV.bool ?_; simp_all; done))) (F4 (C3 rfl (by first | rfl | (refine congrArg AV.bool ?_; simp_all; done))) M5)))
 intro h43
 have k43 := of_decide_eq_false h43; try simp only [A8] at k43
 have hyes : mergeF a b = (o, true) := by (unfold mergeF; rw [if_pos hgd, hme]; exact if_neg (by omega))
 rw [hyes]
 refine C7 (A3 (A2 ?_))
 refine A5 rfl ?_
 refine B5 rfl ?_
 refine A1 rfl (B7 rfl F5) ?_
 refine A4 ?_
 refine C5 ?_
 exact N5 [0] v (trivial) rfl (by rfl) (W6 rfl (by decide) (F4 (C3 rfl (by first | rfl | (refine congrArg AV.bool ?_; simp_all; done))) (F4 (C3 rfl (by first | rfl | (refine congrArg AV.bool ?_; simp_all; done))) M5)))
end Go.Proofs.YtkegepoihkhihaaGreat
