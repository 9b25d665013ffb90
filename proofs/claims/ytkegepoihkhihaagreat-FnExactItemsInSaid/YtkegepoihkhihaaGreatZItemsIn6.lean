/- FnExactItemsIn: for all arguments the program's ItemsIn answers what the reference's answers, in memory of its own. No condition. -/
import Derived.Test.YtkegepoihkhihaaGreatZItemsIn5

set_option linter.unusedVariables false
set_option linter.unusedSimpArgs false
set_option maxRecDepth 100000
set_option maxHeartbeats 2000000
namespace Go.Proofs.YtkegepoihkhihaaGreat
open Go Go.AV Go.M
open Go.ChangeShapes Go.WideShapes Go.ChangeAt Go.RowKit
section
attribute [local irreducible] OpW OpA OpS AWP FSpec ESpec GSpec OpE RetOk RetOkG RvDen Le Ev GuardIs SrcIs
theorem Ak8 (s : TState) (g a u : Int) : (itemsR s g a u).1.length ≤ 400 := by
  unfold itemsR
  split
  · rename_i h
    simp only [Bool.and_eq_true] at h
    have := (Ad5 (n3.1 h.1.1.1.1).cells h.1.1.1.2 a u).2.1
    dsimp only; omega
  · exact Nat.zero_le _
theorem AB1 (s : TState) (hsk : s.ok) (g : Int) (hwg : (Lit.int .i64 g).wf = true) (a : Int) (hwa : (Lit.int .i64 a).wf = true) (u : Int) (hwu : (Lit.int .i64 u).wf = true) : FSpec Tryz.prog 4 [AV.agg s.cs, AV.int g, AV.int a, AV.int u] (AV.bool true) := by
 refine D3 Tryz.func4 rfl Tryz.ntmps4 rfl ?_
 refine A3 (A2 ?_)
 refine I8 rfl rfl rfl rfl (A0 rfl) ?_
 intro b4
 refine A1 rfl (A9 rfl E3) ?_
 refine A4 (A3 (A2 ?_))
 refine A1 rfl (A9 rfl B4) ?_
 refine A4 (A3 (A2 ?_))
 refine A1 rfl (K8 0 rfl (A0 rfl) rfl Tryz.isAgg34 Tryz.sizeOf34 rfl) ?_
 refine A5 rfl ?_
 refine A1 rfl (E1 rfl Tryz.call14 rfl (AY3 _ _ (by assumption) (by first | omega | (simp only [D4, B0, szR] at *; omega)) (by first | omega | (simp only [D4, B0, szR] at *; omega))) (A8 (A0 rfl) (A8 (A0 rfl) C7))) ?_
 refine B3 rfl ?_
 refine A4 (A3 (A3 (A2 ?_)))
 refine A5 rfl ?_
 refine A1 rfl (G0 rfl (A0 rfl) B4) ?_
 refine A4 ?_
 refine C0 (A0 rfl) ?_ ?_
 ·intro h24
  have k24 := of_decide_eq_true h24; try simp only [A6] at k24
  refine A3 (A2 ?_)
  refine A1 rfl (A9 rfl E3) ?_
  refine A4 ?_
  refine B8 ?_
  exact E4 rfl (B7 rfl (by first | rfl | (exfalso; simp_all; done) | (exfalso; simp_all; omega)))
 intro h24
 have k24 := of_decide_eq_false h24; try simp only [A6] at k24
 have hs : s.size ≤ 1048576 := (by simp only [szR] at k24; split at k24 <;> omega)
 have hml := Ak8 s g a u
 have hm1 := s.markN_size 1
 have hm2 := s.markN_le 1
 have hX : 0 ≤ (1 : Int) ∧ s.markN 1 ≤ 4611686018427387904 := ⟨by omega, by omega⟩
 have hX0 : ¬ (s.markN 1 < 0) := by omega
 refine C1 (A3 (A2 ?_))
 refine A1 rfl (K8 0 rfl (A0 rfl) rfl Tryz.isAgg34 Tryz.sizeOf34 rfl) ?_
 refine A1 rfl (E1 rfl Tryz.call16 rfl (p6 s hs) (A8 (A0 rfl) C7)) ?_
 refine A5 rfl ?_
 refine A5 rfl ?_
 refine A5 rfl ?_
 refine A1 rfl (E1 rfl Tryz.call15 rfl (AT7 s g a u hs) (A8 (A0 rfl) (A8 (A0 rfl) (A8 (A0 rfl) (A8 (A0 rfl) C7))))) ?_
 refine A5 rfl ?_
 refine A1 rfl (M2 rfl (A0 rfl) rfl) ?_
 refine A1 rfl (M2 rfl (A0 rfl) rfl) ?_
 refine B3 rfl ?_
 refine B3 rfl ?_
 refine A4 (A3 (A2 ?_))
 refine A1 rfl (K8 0 rfl (A0 rfl) rfl Tryz.isAgg34 Tryz.sizeOf34 rfl) ?_
 refine f9 [] 1 3 ([]) ([]) (fun zz => nin THeld.ow s.Held zz.2.1.2 ++ (nin TCell.ow s.Cells zz.1.2)) rfl rfl rfl rfl Tryz.call16 rfl rfl (show List.Perm ([]) (([]) ++ ([])) from List.Perm.refl _) (Ad9 s hs) (A8 (A0 rfl) C7) (fun a => AH3) ?_
 intro x35 ok35
 have okc := ok35.1
 have okh := ok35.2
 refine I1 rfl rfl rfl rfl Tryz.zeroValue43 rfl ?_
 intro b12
 refine H9 0 rfl rfl rfl (A0 rfl) (A0 rfl) (J4 _) rfl L3 rfl ?_
 refine A4 (A3 (A2 ?_))
 refine A1 rfl (K8 0 rfl (A0 rfl) rfl O0 L3 rfl) ?_
 refine A5 rfl ?_
 refine A5 rfl ?_
 refine A5 rfl ?_
 refine r6 [] rfl rfl rfl rfl Tryz.call17 rfl (AD5 s g a u hs) rfl (L2 (AU9 (A0 rfl) (lt_agg (T2 f8 (T2 (y3 TCell.lcM (by first | exact okc | exact okc.trans (T7 _ _).symm) 1 rfl (fun o ho => List.mem_of_mem_drop (i := 5) (show o ∈ nin THeld.ow s.Held x35.2.1.2 ++ (nin TCell.ow s.Cells x35.1.2) from by first | exact ho | exact List.mem_append_left _ ho | exact List.mem_append_right _ ho | exact List.mem_append_right _ (List.mem_append_left _ ho) | exact List.mem_append_right _ (List.mem_append_right _ ho)))) (T2 (y3 THeld.lcM (by first | exact okh | exact okh.trans (T7 _ _).symm) 2 rfl (fun o ho => List.mem_of_mem_drop (i := 5) (show o ∈ nin THeld.ow s.Held x35.2.1.2 ++ (nin TCell.ow s.Cells x35.1.2) from by first | exact ho | exact List.mem_append_left _ ho | exact List.mem_append_right _ ho | exact List.mem_append_right _ (List.mem_append_left _ ho) | exact List.mem_append_right _ (List.mem_append_right _ ho)))) (T2 (i6 (H4 (i := 3) rfl) W8) u5)))))) (L2 (evb (A0 rfl)) (L2 (evb (A0 rfl)) (L2 (evb (A0 rfl)) T1)))) (by first | exact H6 | (intro _; exact H6) | (intro _; first | exact E0 _ | exact C8 _ _ | exact C3 _ | exact D0 _ | exact C9) | (intro _; refine U4 ?_; (repeat (first | exact C5 | (refine B6 (by first | (first | exact E0 _ | exact C8 _ _ | exact C3 _ | exact D0 _ | exact C9) | (refine N9 ?_; (repeat (first | exact C5 | (refine B6 (by first | exact E0 _ | exact C8 _ _ | exact C3 _ | exact D0 _ | exact C9) ?_))))) ?_))); done) | (intro _; refine N9 ?_; (repeat (first | exact C5 | (refine B6 (by first | exact E0 _ | exact C8 _ _ | exact C3 _ | exact D0 _ | exact C9) ?_))); done) | ((repeat (first | exact H6 | (refine H0 (M3 ?_) ?_; (repeat (first | exact C5 | (refine B6 (by first | exact E0 _ | exact C8 _ _ | exact C3 _ | exact D0 _ | exact C9) ?_)))) | (refine H0 (M4 ?_) ?_; (repeat (first | exact M5 | (refine M7 (fun _ => ?_); (first | exact TWrite.flat _ | exact TFeedItem.flat _ | exact TIdx.flat _ | exact TVer.flat _ | (repeat (first | exact C5 | (refine B6 (by first | exact E0 _ | exact C8 _ _ | exact C3 _ | exact D0 _ | exact C9) ?_))))) | (refine M8 ?_; (first | exact TWrite.flat _ | exact TFeedItem.flat _ | exact TIdx.flat _ | exact TVer.flat _ | (repeat (first | exact C5 | (refine B6 (by first | exact E0 _ | exact C8 _ _ | exact C3 _ | exact D0 _ | exact C9) ?_))))) | (refine L4 ?_ ?_; (first | exact TWrite.flat _ | exact TFeedItem.flat _ | exact TIdx.flat _ | exact TVer.flat _ | (repeat (first | exact C5 | (refine B6 (by first | exact E0 _ | exact C8 _ _ | exact C3 _ | exact D0 _ | exact C9) ?_))))) | refine M6 ?_ ?_))))); done) | (intro _; (repeat (first | exact H6 | (refine H0 (M3 ?_) ?_; (repeat (first | exact C5 | (refine B6 (by first | exact E0 _ | exact C8 _ _ | exact C3 _ | exact D0 _ | exact C9) ?_)))) | (refine H0 (M4 ?_) ?_; (repeat (first | exact M5 | (refine M7 (fun _ => ?_); (first | exact TWrite.flat _ | exact TFeedItem.flat _ | exact TIdx.flat _ | exact TVer.flat _ | (repeat (first | exact C5 | (refine B6 (by first | exact E0 _ | exact C8 _ _ | exact C3 _ | exact D0 _ | exact C9) ?_))))) | (refine M8 ?_; (first | exact TWrite.flat _ | exact TFeedItem.flat _ | exact TIdx.flat _ | exact TVer.flat _ | (repeat (first | exact C5 | (refine B6 (by first | exact E0 _ | exact C8 _ _ | exact C3 _ | exact D0 _ | exact C9) ?_))))) | (refine L4 ?_ ?_; (first | exact TWrite.flat _ | exact TFeedItem.flat _ | exact TIdx.flat _ | exact TVer.flat _ | (repeat (first | exact C5 | (refine B6 (by first | exact E0 _ | exact C8 _ _ | exact C3 _ | exact D0 _ | exact C9) ?_))))) | refine M6 ?_ ?_))))); done)) (by first | exact H6 | (intro _; exact H6) | (intro _; first | exact E0 _ | exact C8 _ _ | exact C3 _ | exact D0 _ | exact C9) | (intro _; refine U4 ?_; (repeat (first | exact C5 | (refine B6 (by first | (first | exact E0 _ | exact C8 _ _ | exact C3 _ | exact D0 _ | exact C9) | (refine N9 ?_; (repeat (first | exact C5 | (refine B6 (by first | exact E0 _ | exact C8 _ _ | exact C3 _ | exact D0 _ | exact C9) ?_))))) ?_))); done) | (intro _; refine N9 ?_; (repeat (first | exact C5 | (refine B6 (by first | exact E0 _ | exact C8 _ _ | exact C3 _ | exact D0 _ | exact C9) ?_))); done) | ((repeat (first | exact H6 | (refine H0 (M3 ?_) ?_; (repeat (first | exact C5 | (refine B6 (by first | exact E0 _ | exact C8 _ _ | exact C3 _ | exact D0 _ | exact C9) ?_)))) | (refine H0 (M4 ?_) ?_; (repeat (first | exact M5 | (refine M7 (fun _ => ?_); (first | exact TWrite.flat _ | exact TFeedItem.flat _ | exact TIdx.flat _ | exact TVer.flat _ | (repeat (first | exact C5 | (refine B6 (by first | exact E0 _ | exact C8 _ _ | exact C3 _ | exact D0 _ | exact C9) ?_))))) | (refine M8 ?_; (first | exact TWrite.flat _ | exact TFeedItem.flat _ | exact TIdx.flat _ | exact TVer.flat _ | (repeat (first | exact C5 | (refine B6 (by first | exact E0 _ | exact C8 _ _ | exact C3 _ | exact D0 _ | exact C9) ?_))))) | (refine L4 ?_ ?_; (first | exact TWrite.flat _ | exact TFeedItem.flat _ | exact TIdx.flat _ | exact TVer.flat _ | (repeat (first | exact C5 | (refine B6 (by first | exact E0 _ | exact C8 _ _ | exact C3 _ | exact D0 _ | exact C9) ?_))))) | refine M6 ?_ ?_))))); done) | (intro _; (repeat (first | exact H6 | (refine H0 (M3 ?_) ?_; (repeat (first | exact C5 | (refine B6 (by first | exact E0 _ | exact C8 _ _ | exact C3 _ | exact D0 _ | exact C9) ?_)))) | (refine H0 (M4 ?_) ?_; (repeat (first | exact M5 | (refine M7 (fun _ => ?_); (first | exact TWrite.flat _ | exact TFeedItem.flat _ | exact TIdx.flat _ | exact TVer.flat _ | (repeat (first | exact C5 | (refine B6 (by first | exact E0 _ | exact C8 _ _ | exact C3 _ | exact D0 _ | exact C9) ?_))))) | (refine M8 ?_; (first | exact TWrite.flat _ | exact TFeedItem.flat _ | exact TIdx.flat _ | exact TVer.flat _ | (repeat (first | exact C5 | (refine B6 (by first | exact E0 _ | exact C8 _ _ | exact C3 _ | exact D0 _ | exact C9) ?_))))) | (refine L4 ?_ ?_; (first | exact TWrite.flat _ | exact TFeedItem.flat _ | exact TIdx.flat _ | exact TVer.flat _ | (repeat (first | exact C5 | (refine B6 (by first | exact E0 _ | exact C8 _ _ | exact C3 _ | exact D0 _ | exact C9) ?_))))) | refine M6 ?_ ?_))))); done)) (by first | exact H6 | (intro _; exact H6) | (intro _; first | exact E0 _ | exact C8 _ _ | exact C3 _ | exact D0 _ | exact C9) | (intro _; refine U4 ?_; (repeat (first | exact C5 | (refine B6 (by first | (first | exact E0 _ | exact C8 _ _ | exact C3 _ | exact D0 _ | exact C9) | (refine N9 ?_; (repeat (first | exact C5 | (refine B6 (by first | exact E0 _ | exact C8 _ _ | exact C3 _ | exact D0 _ | exact C9) ?_))))) ?_))); done) | (intro _; refine N9 ?_; (repeat (first | exact C5 | (refine B6 (by first | exact E0 _ | exact C8 _ _ | exact C3 _ | exact D0 _ | exact C9) ?_))); done) | ((repeat (first | exact H6 | (refine H0 (M3 ?_) ?_; (repeat (first | exact C5 | (refine B6 (by first | exact E0 _ | exact C8 _ _ | exact C3 _ | exact D0 _ | exact C9) ?_)))) | (refine H0 (M4 ?_) ?_; (repeat (first | exact M5 | (refine M7 (fun _ => ?_); (first | exact TWrite.flat _ | exact TFeedItem.flat _ | exact TIdx.flat _ | exact TVer.flat _ | (repeat (first | exact C5 | (refine B6 (by first | exact E0 _ | exact C8 _ _ | exact C3 _ | exact D0 _ | exact C9) ?_))))) | (refine M8 ?_; (first | exact TWrite.flat _ | exact TFeedItem.flat _ | exact TIdx.flat _ | exact TVer.flat _ | (repeat (first | exact C5 | (refine B6 (by first | exact E0 _ | exact C8 _ _ | exact C3 _ | exact D0 _ | exact C9) ?_))))) | (refine L4 ?_ ?_; (first | exact TWrite.flat _ | exact TFeedItem.flat _ | exact TIdx.flat _ | exact TVer.flat _ | (repeat (first | exact C5 | (refine B6 (by first | exact E0 _ | exact C8 _ _ | exact C3 _ | exact D0 _ | exact C9) ?_))))) | refine M6 ?_ ?_))))); done) | (intro _; (repeat (first | exact H6 | (refine H0 (M3 ?_) ?_; (repeat (first | exact C5 | (refine B6 (by first | exact E0 _ | exact C8 _ _ | exact C3 _ | exact D0 _ | exact C9) ?_)))) | (refine H0 (M4 ?_) ?_; (repeat (first | exact M5 | (refine M7 (fun _ => ?_); (first | exact TWrite.flat _ | exact TFeedItem.flat _ | exact TIdx.flat _ | exact TVer.flat _ | (repeat (first | exact C5 | (refine B6 (by first | exact E0 _ | exact C8 _ _ | exact C3 _ | exact D0 _ | exact C9) ?_))))) | (refine M8 ?_; (first | exact TWrite.flat _ | exact TFeedItem.flat _ | exact TIdx.flat _ | exact TVer.flat _ | (repeat (first | exact C5 | (refine B6 (by first | exact E0 _ | exact C8 _ _ | exact C3 _ | exact D0 _ | exact C9) ?_))))) | (refine L4 ?_ ?_; (first | exact TWrite.flat _ | exact TFeedItem.flat _ | exact TIdx.flat _ | exact TVer.flat _ | (repeat (first | exact C5 | (refine B6 (by first | exact E0 _ | exact C8 _ _ | exact C3 _ | exact D0 _ | exact C9) ?_))))) | refine M6 ?_ ?_))))); done)) ?_
 intro x41 ok41
 refine A5 rfl ?_
 refine A1 rfl (M2 rfl (A0 rfl) rfl) ?_
 refine A1 rfl (M2 rfl (A0 rfl) rfl) ?_
 refine B3 rfl ?_
 refine B3 rfl ?_
 refine A4 (A3 (A3 (A2 ?_)))
 refine A5 rfl ?_
 refine A5 rfl ?_
 refine A1 rfl (Z1 rfl Tryz.call18 rfl (f0 _ _) (C3 _) (L2 (j6 0 (A0 rfl) rfl) (L2 (evb (A0 rfl)) T1))) ?_
 refine A1 rfl (J3 rfl (A0 rfl)) ?_
 refine A5 rfl ?_
 refine H3 rfl (fun hc => C2 rfl (A0 rfl)) ?_
 refine H3 rfl (fun hc => C2 rfl (A0 rfl)) ?_
 refine H3 rfl (fun hc => m1 rfl N5 (A7 rfl hc) (A7 rfl hc)) ?_
 refine A1 rfl (O1 rfl (A0 rfl) (F3 rfl)) ?_
 refine A4 ?_
 refine C0 (A0 rfl) ?_ ?_
 ·intro h52
  refine A3 (A2 ?_)
  refine A1 rfl (A9 rfl E3) ?_
  refine A4 ?_
  refine B8 ?_
  exact E4 rfl (B7 rfl (by first | rfl | (exfalso; simp_all; done) | (exfalso; simp_all; omega)))
 intro h52
 refine C1 (A3 (A3 ?_))
 refine H7 (by kernel_rfl) (by kernel_rfl) rfl ?_
 refine B5 rfl rfl (K8 1 rfl (A0 rfl) rfl O0 L3 rfl) ?_
 refine B5 rfl rfl (K8 5 rfl (A0 rfl) rfl Tryz.isAgg34 Tryz.sizeOf34 rfl) ?_
 refine B5 rfl rfl (E1 rfl Tryz.call16 rfl (p6 s hs) (A8 (A0 rfl) C7)) ?_
 refine B5 rfl rfl (Z1 rfl Tryz.call19 rfl (AY4 _ _) (C3 _) (L2 (AU9 (A0 rfl) (lt_agg (T2 f8 (T2 (y3 TCell.lcM (by first | exact okc | exact okc.trans (T7 _ _).symm) 2 rfl (fun o ho => List.mem_of_mem_drop (i := 6) (show o ∈ nin THeld.ow s.Held x35.2.1.2 ++ (nin TCell.ow s.Cells x35.1.2) from by first | exact ho | exact List.mem_append_left _ ho | exact List.mem_append_right _ ho | exact List.mem_append_right _ (List.mem_append_left _ ho) | exact List.mem_append_right _ (List.mem_append_right _ ho)))) (T2 (y3 THeld.lcM (by first | exact okh | exact okh.trans (T7 _ _).symm) 3 rfl (fun o ho => List.mem_of_mem_drop (i := 6) (show o ∈ nin THeld.ow s.Held x35.2.1.2 ++ (nin TCell.ow s.Cells x35.1.2) from by first | exact ho | exact List.mem_append_left _ ho | exact List.mem_append_right _ ho | exact List.mem_append_right _ (List.mem_append_left _ ho) | exact List.mem_append_right _ (List.mem_append_right _ ho)))) (T2 (i6 (H4 (i := 4) rfl) W8) u5)))))) (L2 (evb (A0 rfl)) T1))) ?_
 refine B5 rfl rfl (J3 rfl (A0 rfl)) ?_
 refine O5 ?_
 refine C0 (A0 rfl) ?_ ?_
 ·intro h57
  refine A3 (A2 ?_)
  refine A1 rfl (A9 rfl E3) ?_
  refine A4 ?_
  refine B8 ?_
  exact E4 rfl (B7 rfl (by first | rfl | (exfalso; simp_all; done) | (exfalso; simp_all; omega)))
 intro h57
 refine C1 (A3 (A2 ?_))
 refine A1 rfl (A9 rfl B4) ?_
 refine A4 (A3 (A2 ?_))
 refine A1 rfl (K8 1 rfl (A0 rfl) rfl O0 L3 rfl) ?_
 refine A5 rfl ?_
 refine f9 [2, 2, 2] 3 3 (nin THeld.ow s.Held x35.2.1.2 ++ (nin TCell.ow s.Cells x35.1.2)) ([]) (fun zz => nin THeld.ow (s.mark 1).Held x35.2.1.2 ++ (nin TCell.ow (s.mark 1).Cells x35.1.2)) rfl rfl rfl rfl Tryz.call20 rfl rfl (show List.Perm (nin THeld.ow s.Held x35.2.1.2 ++ (nin TCell.ow s.Cells x35.1.2)) ((nin THeld.ow s.Held x35.2.1.2 ++ (nin TCell.ow s.Cells x35.1.2)) ++ ([])) from e8) (AO5 s x35 1 ok35 hX) (A8 (A0 rfl) (A8 (A0 rfl) C7)) (fun a => AH3) ?_
 intro x60 ok60
 refine B3 rfl ?_
 refine A4 (A3 (A3 (A2 ?_)))
 refine A5 rfl ?_
 refine A1 rfl (G0 rfl (A0 rfl) B4) ?_
 refine A5 rfl ?_
 refine H3 rfl (fun hc => C2 rfl (A0 rfl)) ?_
 refine H3 rfl (fun hc => C2 rfl (A0 rfl)) ?_
 refine H3 rfl (fun hc => Z1 rfl Tryz.call18 rfl (f0 _ _) (C3 _) (L2 (j6 3 (A7 rfl hc) rfl) (L2 (evb (A7 rfl hc)) T1))) ?_
 refine H3 rfl (fun hc => J3 rfl (A7 rfl hc)) ?_
 refine A1 rfl (O1 rfl (A0 rfl) (F3 rfl)) ?_
 refine A5 rfl ?_
 refine H3 rfl (fun hc => C2 rfl (A0 rfl)) ?_
 refine H3 rfl (fun hc => C2 rfl (A0 rfl)) ?_
 refine H3 rfl (fun hc => m1 rfl N5 (A7 rfl hc) (A7 rfl hc)) ?_
 refine A1 rfl (O1 rfl (A0 rfl) (F3 rfl)) ?_
 refine A4 ?_
 refine C0 (A0 rfl) ?_ ?_
 ·intro h73
  refine A3 (A2 ?_)
  refine A1 rfl (A9 rfl E3) ?_
  refine A4 ?_
  refine B8 ?_
  exact E4 rfl (B7 rfl (by first | rfl | (exfalso; simp_all; done) | (exfalso; simp_all; omega)))
 intro h73
 refine C1 (A3 (A2 ?_))
 refine A1 rfl (A9 rfl B4) ?_
 refine A4 (A3 (A2 ?_))
 refine A5 rfl ?_
 refine A5 rfl ?_
 refine Q8 [3] rfl rfl rfl rfl Tryz.call21 rfl (AD1 _ (itemsR s g a u).1 1 ⟨by omega, by omega⟩) (A8 (A0 rfl) (A8 (A0 rfl) C7)) rfl ?_
 intro x76 ok76
 refine B3 rfl ?_
 refine A4 (A3 (A2 ?_))
 refine A1 rfl (A9 rfl B4) ?_
 refine A4 (A3 (A2 ?_))
 refine A5 rfl ?_
 refine A5 rfl ?_
 refine A1 rfl (Z1 rfl Tryz.call22 rfl (n0 (itemsR s g a u).1.length 1 ⟨by omega, by omega⟩) (C8 _ _) (L2 (j6 0 (A0 rfl) rfl) (L2 (evb (A0 rfl)) T1))) ?_
 refine B3 rfl ?_
 refine A4 (A3 (A3 (A2 ?_)))
 refine A5 rfl ?_
 refine A1 rfl (G0 rfl (A0 rfl) B4) ?_
 refine A4 ?_
 refine C0 (A0 rfl) ?_ ?_
 ·intro h81
  have k81 := of_decide_eq_true h81; try simp only [A6] at k81
  refine A3 (A2 ?_)
  refine A1 rfl (A9 rfl E3) ?_
  refine A4 ?_
  refine B8 ?_
  exact E4 rfl (B7 rfl (by first | rfl | (exfalso; simp_all; done) | (exfalso; simp_all; omega)))
 intro h81
 have k81 := of_decide_eq_false h81; try simp only [A6] at k81
 refine C1 (A3 (A3 (A2 ?_)))
 refine A5 rfl ?_
 refine A5 rfl ?_
 refine A1 rfl (R6 rfl (A0 rfl) (A0 rfl)) ?_
 refine A4 ?_
 refine C0 (A0 rfl) ?_ ?_
 ·intro h84
  have k84 := N6 h84; try simp only [A6] at k84
  refine A3 (A2 ?_)
  refine A1 rfl (A9 rfl E3) ?_
  refine A4 ?_
  refine B8 ?_
  exact E4 rfl (B7 rfl (by first | rfl | (exfalso; simp_all; done) | (exfalso; simp_all; omega)))
 intro h84
 have k84 := J1 h84; try simp only [A6] at k84
 refine C1 (A3 (A2 ?_))
 refine A1 rfl (K8 5 rfl (A0 rfl) rfl Tryz.isAgg34 Tryz.sizeOf34 rfl) ?_
 refine A1 rfl (E1 rfl Tryz.call16 rfl (p6 s hs) (A8 (A0 rfl) C7)) ?_
 refine A5 rfl ?_
 refine A5 rfl ?_
 refine A5 rfl ?_
 refine Q8 [] rfl rfl rfl rfl Tryz.call17 rfl (AD5 s g a u hs) (A8 (A0 rfl) (A8 (A0 rfl) (A8 (A0 rfl) (A8 (A0 rfl) C7)))) rfl ?_
 intro x91 ok91
 refine A5 rfl ?_
 refine A1 rfl (M2 rfl (A0 rfl) rfl) ?_
 refine A1 rfl (M2 rfl (A0 rfl) rfl) ?_
 refine B3 rfl ?_
 refine B3 rfl ?_
 refine A4 (A3 (A3 (A2 ?_)))
 refine A5 rfl ?_
 refine A5 rfl ?_
 refine A1 rfl (Z1 rfl Tryz.call18 rfl (f0 _ _) (C3 _) (L2 (j6 0 (A0 rfl) rfl) (L2 (evb (A0 rfl)) T1))) ?_
 refine A1 rfl (J3 rfl (A0 rfl)) ?_
 refine A5 rfl ?_
 refine H3 rfl (fun hc => C2 rfl (A0 rfl)) ?_
 refine H3 rfl (fun hc => C2 rfl (A0 rfl)) ?_
 refine H3 rfl (fun hc => m1 rfl N5 (A7 rfl hc) (A7 rfl hc)) ?_
 refine A1 rfl (O1 rfl (A0 rfl) (F3 rfl)) ?_
 refine A4 ?_
 refine C0 (A0 rfl) ?_ ?_
 ·intro h102
  refine A3 (A2 ?_)
  refine A1 rfl (A9 rfl E3) ?_
  refine A4 ?_
  refine B8 ?_
  exact E4 rfl (B7 rfl (by first | rfl | (exfalso; simp_all; done) | (exfalso; simp_all; omega)))
 intro h102
 refine C1 (A3 (A2 ?_))
 refine A1 rfl (A9 rfl B4) ?_
 refine A4 (A3 (A2 ?_))
 refine A5 rfl ?_
 refine A5 rfl ?_
 refine A1 rfl (Z1 rfl Tryz.call22 rfl (n0 (itemsR s g a u).1.length 1 ⟨by omega, by omega⟩) (C8 _ _) (L2 (j6 1 (A0 rfl) rfl) (L2 (evb (A0 rfl)) T1))) ?_
 refine B3 rfl ?_
 refine A4 (A3 (A3 (A2 ?_)))
 refine A5 rfl ?_
 refine A1 rfl (G0 rfl (A0 rfl) B4) ?_
 refine A4 ?_
 refine C0 (A0 rfl) ?_ ?_
 ·intro h107
  have k107 := of_decide_eq_true h107; try simp only [A6] at k107
  refine A3 (A2 ?_)
  refine A1 rfl (A9 rfl E3) ?_
  refine A4 ?_
  refine B8 ?_
  exact E4 rfl (B7 rfl (by first | rfl | (exfalso; simp_all; done) | (exfalso; simp_all; omega)))
 intro h107
 have k107 := of_decide_eq_false h107; try simp only [A6] at k107
 refine C1 (A3 (A3 (A2 ?_)))
 refine A5 rfl ?_
 refine A5 rfl ?_
 refine A1 rfl (R6 rfl (A0 rfl) (A0 rfl)) ?_
 refine A4 ?_
 refine C0 (A0 rfl) ?_ ?_
 ·intro h110
  have k110 := N6 h110; try simp only [A6] at k110
  refine A3 (A2 ?_)
  refine A1 rfl (A9 rfl E3) ?_
  refine A4 ?_
  refine B8 ?_
  exact E4 rfl (B7 rfl (by first | rfl | (exfalso; simp_all; done) | (exfalso; simp_all; omega)))
 intro h110
 have k110 := J1 h110; try simp only [A6] at k110
 refine C1 (A3 (A2 ?_))
 refine A1 rfl (A9 rfl E3) ?_
 refine A4 ?_
 refine B8 ?_
 exact E4 rfl (B7 rfl (by first | rfl | (exfalso; simp_all; done) | (exfalso; simp_all; omega)))
end
theorem c0 : Opens Tryz.prog 3 Int (fun n => [AV.int n]) (fun _ => True) := S7 id (s5 M9) (fun _ => rfl) (fun _ _ => trivial)
theorem n2 : Opens Tryz.prog 9 Str (fun s => [AV.str s]) (fun s => s.length ≤ 9223372036854775807) := Ap1 I3
theorem z8 : Opens Tryz.prog 4 Bool (fun s => [AV.bool s]) (fun _ => True) := Ak7 N5
theorem Ak9 : Opens Tryz.prog 217 TVer TVer.cs (fun c => c.ok) := S7 (fun p => ⟨p.1, p.2.1, p.2.2.1⟩) (X5 Tryz.underlying217 (by kernel_rfl) (L8 (m := 1) c0 rfl (by kernel_rfl) (L8 (m := 1) n2 rfl (by kernel_rfl) (L8 (m := 1) z8 rfl (by kernel_rfl) c8)))) (fun _ => rfl) (fun _ h => by exact h.2.1)
theorem Ae1 : Opens Tryz.prog 132 (List TVer) (fun l => [AV.list 3 (l.map TVer.cs)]) (fun l => (∀ x ∈ l, x.ok)) := S7 id (Z5 (sz := 3) O4 (by kernel_rfl) Ak9 (fun _ => rfl)) (fun _ => rfl) (fun _ h => h)
theorem Ae2 : Opens Tryz.prog 134 TCell TCell.cs (fun c => c.ok) := S7 (fun p => ⟨p.1, p.2.1⟩) (X5 R5 (by kernel_rfl) (L8 (m := 1) n2 rfl (by kernel_rfl) (L8 (m := 1) Ae1 rfl (by kernel_rfl) c8))) (fun _ => rfl) (fun _ h => by exact ⟨h.1, h.2.1⟩)
theorem AZ8 : Opens Tryz.prog 30 (List TCell) (fun l => [AV.list 2 (l.map TCell.cs)]) (fun l => (∀ x ∈ l, x.ok)) := S7 id (Z5 (sz := 2) P2 (by kernel_rfl) Ae2 (fun _ => rfl)) (fun _ => rfl) (fun _ h => h)
theorem Al0 : Opens Tryz.prog 99 (List Str) (fun l => [AV.list 1 (l.map fun x => [AV.str x])]) (fun l => (∀ x ∈ l, x.length ≤ 9223372036854775807)) := S7 id (Z5 (sz := 1) D5 (by kernel_rfl) n2 (fun _ => rfl)) (fun _ => rfl) (fun _ h => h)
theorem AZ9 : Opens Tryz.prog 219 TWrite TWrite.cs (fun c => c.ok) := S7 (fun p => ⟨p.1, p.2.1, p.2.2.1⟩) (X5 T3 (by kernel_rfl) (L8 (m := 1) n2 rfl (by kernel_rfl) (L8 (m := 1) n2 rfl (by kernel_rfl) (L8 (m := 1) z8 rfl (by kernel_rfl) c8)))) (fun _ => rfl) (fun _ h => by exact ⟨h.1, h.2.1⟩)
theorem AT8 : Opens Tryz.prog 136 (List TWrite) (fun l => [AV.list 3 (l.map TWrite.cs)]) (fun l => (∀ x ∈ l, x.ok)) := S7 id (Z5 (sz := 3) O3 (by kernel_rfl) AZ9 (fun _ => rfl)) (fun _ => rfl) (fun _ h => h)
theorem Ae3 : Opens Tryz.prog 138 THeld THeld.cs (fun c => c.ok) := S7 (fun p => ⟨p.1, p.2.1, p.2.2.1, p.2.2.2.1, p.2.2.2.2.1⟩) (X5 L7 (by kernel_rfl) (L8 (m := 1) c0 rfl (by kernel_rfl) (L8 (m := 1) c0 rfl (by kernel_rfl) (L8 (m := 1) c0 rfl (by kernel_rfl) (L8 (m := 1) Al0 rfl (by kernel_rfl) (L8 (m := 1) AT8 rfl (by kernel_rfl) c8)))))) (fun _ => rfl) (fun _ h => by exact ⟨h.2.2.2.1, h.2.2.2.2.1⟩)
theorem Aa0 : Opens Tryz.prog 31 (List THeld) (fun l => [AV.list 5 (l.map THeld.cs)]) (fun l => (∀ x ∈ l, x.ok)) := S7 id (Z5 (sz := 5) P3 (by kernel_rfl) Ae3 (fun _ => rfl)) (fun _ => rfl) (fun _ h => h)
theorem Ae4 : Opens Tryz.prog 146 TTold TTold.cs (fun c => True) := S7 (fun p => ⟨p.1, p.2.1, p.2.2.1⟩) (X5 Tryz.underlying146 (by kernel_rfl) (L8 (m := 1) c0 rfl (by kernel_rfl) (L8 (m := 1) z8 rfl (by kernel_rfl) (L8 (m := 1) c0 rfl (by kernel_rfl) c8)))) (fun _ => rfl) (fun _ _ => trivial)
theorem Aa1 : Opens Tryz.prog 32 (List TTold) (fun l => [AV.list 3 (l.map TTold.cs)]) (fun l => True) := S7 id (Z5 (sz := 3) Q9 (by kernel_rfl) Ae4 (fun _ => rfl)) (fun _ => rfl) (fun _ _ => trivial)
theorem Aa2 : Opens Tryz.prog 34 TState TState.cs (fun c => c.ok) := S7 (fun p => ⟨p.1, p.2.1, p.2.2.1, p.2.2.2.1⟩) (X5 N0 (by kernel_rfl) (L8 (m := 1) c0 rfl (by kernel_rfl) (L8 (m := 1) AZ8 rfl (by kernel_rfl) (L8 (m := 1) Aa0 rfl (by kernel_rfl) (L8 (m := 1) Aa1 rfl (by kernel_rfl) c8))))) (fun _ => rfl) (fun _ h => by exact ⟨h.2.1, h.2.2.1⟩)
set_option maxRecDepth 100000 in
theorem fnExactItemsIn_lifted (os : Os) (started : os.Started) (H : Type) (enc : TypeId × Value → H) :
    ReturnsInHanded {} Tryz.checked os 4 .any (Rows.fnExactItemsInSpec.pre6 enc Tryz.prog Tryz.f4 Rows.fnExactItemsInRow.domain false) (Rows.fnExactItemsInSpec.post enc Tryz.prog Tryz.f4 false true false false) := by
  refine returnsInHanded_of_change (C := Tryz.checked) (by kernel_rfl) started (by kernel_rfl) Tryz.func4
    (ChangeSpec.witness6 (enc := enc) (C := Tryz.checked) false ⟨#[], #[.agg #[.int .i64 0, .slice none 0 0, .slice none 0 0, .slice none 0 0], .int .i64 0, .int .i64 0, .int .i64 0], []⟩ 8 (by kernel_rfl) (by kernel_rfl) (by kernel_rfl) (by kernel_rfl)) ?_
  intro W base args ds gs before hval0 hW hcnd _
  have hval : ∀ (j : Nat) t v, Tryz.f4.params[j]? = some t → args[j]? = some v → Value.okWide Tryz.prog W .any base t v := hval0
  have hW2 := hW
  obtain ⟨p, q, hA0, hV, rfl, hfz, hnd⟩ := hW
  have hA : DataW.TrodAll enc Tryz.prog W 0 (fun _ => true) true Tryz.f4.params.toList args.toList ds p := hA0
  rw [Tryz.params4] at hA hval
  obtain ⟨v0, vs0, d0, ds0, p0, q0, hargs, rfl, rfl, h0, r0⟩ := trodAll_cons hA
  obtain ⟨v1, vs1, d1, ds1, p1, q1, rfl, rfl, rfl, h1, r1⟩ := trodAll_cons r0
  obtain ⟨v2, vs2, d2, ds2, p2, q2, rfl, rfl, rfl, h2, r2⟩ := trodAll_cons r1
  obtain ⟨v3, vs3, d3, ds3, p3, q3, rfl, rfl, rfl, h3, r3⟩ := trodAll_cons r2
  obtain ⟨rfl, rfl, rfl⟩ := trodAll_nil r3
  obtain rfl : args = #[v0, v1, v2, v3] := by cases args; simp_all
  obtain ⟨rfl, rfl⟩ := trodVars_none hV
  have lt0 : ∀ x ∈ p0, x.block < W.heap.size := by obtain ⟨m, hm⟩ := h0; exact DataW.trod_lt m _ _ _ hm
  obtain ⟨a0, w0, g0⟩ := arg_agg (Aa2) N0 (hval 0 34 v0 rfl rfl) h0
  have lt1 : ∀ x ∈ p1, x.block < W.heap.size := by obtain ⟨m, hm⟩ := h1; exact DataW.trod_lt m _ _ _ hm
  obtain ⟨a1, w1, g1⟩ := AO6 (s5 M9) (by obtain ⟨y, rfl⟩ := okWide_int M9 (hval 1 3 v1 rfl rfl); rfl) h1
  have lt2 : ∀ x ∈ p2, x.block < W.heap.size := by obtain ⟨m, hm⟩ := h2; exact DataW.trod_lt m _ _ _ hm
  obtain ⟨a2, w2, g2⟩ := AO6 (s5 M9) (by obtain ⟨y, rfl⟩ := okWide_int M9 (hval 2 3 v2 rfl rfl); rfl) h2
  have lt3 : ∀ x ∈ p3, x.block < W.heap.size := by obtain ⟨m, hm⟩ := h3; exact DataW.trod_lt m _ _ _ hm
  obtain ⟨a3, w3, g3⟩ := AO6 (s5 M9) (by obtain ⟨y, rfl⟩ := okWide_int M9 (hval 3 3 v3 rfl rfl); rfl) h3
  have hcall := Ap2 (AB1 a0 w0 a1 w1 a2 w2 a3 w3) (DenV.cons g0 (DenV.cons g1 (DenV.cons g2 (DenV.cons g3 (DenV.nil _)))))
  clear hA0 hval0
  refine Calls.mono hcall fun e W2 ⟨he, bel⟩ => ?_
  subst he
  exact ⟨_, rfl, _, _, _, [], _, [], hW2, trodAll_mk1 (shut_bool N5 _), (trodAll_cons_mk (Below.trod (by kernel_rfl : laidOutB Tryz.prog = true) (by kernel_rfl) (of_decide_eq_true (by kernel_rfl)) h0 bel lt0) (trodAll_cons_mk (Below.trod (by kernel_rfl : laidOutB Tryz.prog = true) (by kernel_rfl) (of_decide_eq_true (by kernel_rfl)) h1 bel lt1) (trodAll_cons_mk (Below.trod (by kernel_rfl : laidOutB Tryz.prog = true) (by kernel_rfl) (of_decide_eq_true (by kernel_rfl)) h2 bel lt2) (trodAll_cons_mk (Below.trod (by kernel_rfl : laidOutB Tryz.prog = true) (by kernel_rfl) (of_decide_eq_true (by kernel_rfl)) h3 bel lt3) trodAll_mk0)))), rfl, bel.frame _, fun h => by cases h⟩
theorem AD6 {a b : Bool} (h : a = true) (k : b = true) : (a && b) = true := by rw [h, k]; rfl
set_option maxRecDepth 100000 in
theorem AA0 : joinedFacts Tryz.pinned.checked.prog 4 Tryz.f4 Rows.fnExactItemsInSpec Rows.fnExactItemsInRow = true := by
  unfold joinedFacts
  iterate 18 (rw [Bool.and_assoc])
  refine AD6 ?_ ?_
  · as_aux_lemma => kernel_rfl
  · as_aux_lemma => kernel_rfl
theorem fnExactItemsIn_proved : Rows.FnExactItemsInSaid :=
  OpenClaim.holds_of_wide 4 Tryz.f4 rfl rfl rfl rfl rfl rfl rfl ⟨rfl, rfl, rfl, rfl, rfl⟩ rfl rfl rfl rfl rfl (by kernel_rfl) Tryz.func4 AA0
    (of_decide_eq_true (by kernel_rfl)) (by unfold Func.isWrapper; first | (rw [if_pos (by decide +kernel)]; kernel_rfl) | (rw [if_neg (by decide +kernel)]; exact ⟨rfl, rfl⟩))
    (fun os started H enc _ => fnExactItemsIn_lifted os started H enc)
end Go.Proofs.YtkegepoihkhihaaGreat
