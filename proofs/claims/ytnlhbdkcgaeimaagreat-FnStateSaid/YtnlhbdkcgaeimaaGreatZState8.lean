/- FnState: for every drawn log, the state that it gives is valid, each prefix gives a state that the whole log keeps; the program answers what the reference answers. No condition. -/
import Derived.Test.YtnlhbdkcgaeimaaGreatZState7

set_option linter.unusedVariables false
set_option linter.unusedSimpArgs false
set_option maxRecDepth 100000
set_option maxHeartbeats 2000000
namespace Go.Proofs.YtnlhbdkcgaeimaaGreat
open Go Go.AV Go.M
attribute [local irreducible] OpW OpA OpS AWP FSpec ESpec GSpec OpE RetOk RetOkG RvDen Le Ev GuardIs SrcIs SrcE Int.tmod Int.tdiv IntKind.wrap bandI
theorem AR4 (code : List Int) (hcode : ByteL code) : GSpec Tryz.prog 25 [bytesI code] [] (fun x : (TState × TState) × Value × Value => x.1.1.size ≤ 33045 ∧ x.1.2.size ≤ 33045) (fun x => TState.ow x.1.2 x.2) (fun x => AV.tup [AV.agg x.1.1.cs, AV.agg (TState.ocs x.1.2 x.2)]) := by
 refine J3 Tryz.func25 rfl Tryz.ntmps25 rfl ?_
 refine A3 (A2 ?_)
 refine F4 rfl rfl rfl rfl Tryz.zeroValue30 rfl ?_
 intro b2
 refine F4 rfl rfl rfl rfl Tryz.zeroValue30 rfl ?_
 intro b3
 refine A4 (A3 (A2 ?_))
 refine A6 rfl rfl rfl rfl rfl ?_
 refine A1 rfl rfl rfl (N2 (places := #[(0, 1), (1, 1), (2, 1)]) rfl N9 Tryz.zeroValue127 (fun w => by kernel_rfl) rfl (E8 (A0 rfl) (T4 _ _) I5) rfl) ?_
 refine M7 rfl rfl rfl rfl (A0 rfl) ?_
 intro b9
 refine C2 rfl rfl rfl rfl rfl ?_
 refine A4 (A3 (A2 ?_))
 refine A6 rfl rfl rfl rfl rfl ?_
 refine I8 [0] rfl rfl rfl rfl Tryz.call99 rfl (s8 _ _ hcode ⟨0, 0⟩ (by decide)) (A7 (A0 rfl) D2) rfl ?_
 intro x11 ok11
 have hp11 : x11.1.p ≤ 1310 := by (have h9 := ok11.1; dsimp only at h9; omega)
 have hfl := ok11.2.2.floor
 have hsz := ok11.2.1
 unfold TState.size at hsz
 refine F4 rfl rfl rfl rfl Tryz.zeroValue30 rfl ?_
 intro b5
 refine D3 0 rfl rfl rfl (A0 rfl) (A0 rfl) (D8 _) rfl A8 rfl ?_
 refine A4 (A3 (A2 ?_))
 refine A1 rfl rfl rfl (D9 0 rfl (A0 rfl) rfl C4 A8 rfl) ?_
 refine I8 [] rfl rfl rfl rfl Tryz.call107 rfl (AR0 x11.2 (by omega)) (A7 (A0 rfl) D2) rfl ?_
 intro x13 ok13
 refine F4 rfl rfl rfl rfl Tryz.zeroValue30 rfl ?_
 intro b6
 refine D3 0 rfl rfl rfl (A0 rfl) (A0 rfl) (D8 _) rfl A8 rfl ?_
 refine A4 (A3 (A3 ?_))
 refine H9 (by first | (simp only [TState.ow, TState.ocs, splice, pick, L5, L1, L2, K9, L3, List.nil_append, L6, L7, List.append_nil, L0, List.take_zero, L4, List.drop_zero]; exact rfl) | exact rfl) ?_
 refine A2 ?_
 refine A6 rfl rfl rfl rfl rfl ?_
 refine I8 [4] rfl rfl rfl rfl Tryz.call100 rfl (Q2 _ _ hcode _ _ (by omega) (by omega)) (A7 (A0 rfl) (A7 C6 D2)) rfl ?_
 intro x15 ok15
 refine A4 (E1 (A3 (A2 ?_)))
 refine A1 rfl rfl rfl (N3 rfl (A0 rfl) C6) ?_
 refine C2 rfl rfl rfl rfl rfl ?_
 refine A4 ?_
 refine D0 (A0 rfl) ?_ ?_
 ·intro h16
  have k16 := M1 h16; try simp only [A5] at k16
  refine H9 (by first | (simp only [TState.ow, TState.ocs, splice, pick, L5, L1, L2, K9, L3, List.nil_append, L6, L7, List.append_nil, L0, List.take_zero, L4, List.drop_zero]; exact rfl) | exact rfl) ?_
  refine A2 ?_
  refine A1 rfl rfl rfl (B3 0 rfl B8 rfl C0 (A0 rfl) rfl) ?_
  refine A1 rfl rfl rfl (B2 1 rfl (A0 rfl) rfl C5 rfl) ?_
  refine A1 rfl rfl rfl (H4 rfl (A0 rfl) C6 (by first | omega | (simp only [A5, B1, B5, C1, B0, szR] at *; omega))) ?_
  refine A1 rfl rfl rfl (B3 0 rfl B8 rfl C0 (A0 rfl) rfl) ?_
  refine I3 1 rfl rfl rfl (A0 rfl) (A0 rfl) (L9 _ _) rfl C0 rfl ?_
  refine A4 (A3 ?_)
  refine H9 (by first | (simp only [TState.ow, TState.ocs, splice, pick, L5, L1, L2, K9, L3, List.nil_append, L6, L7, List.append_nil, L0, List.take_zero, L4, List.drop_zero]; exact rfl) | exact rfl) ?_
  refine AWP.le (H7 [4, 1, 4, 3] rfl) ?_
  refine M4 _ 3 (.pure 0 (.pure 1 (.e1 2 .nil))) (by kernel_rfl) (by kernel_rfl) rfl (N8 2) ?_
  refine G6 rfl rfl rfl (fun ext => D9 0 rfl (A0 rfl) rfl C4 A8 rfl) ?_
  refine G6 rfl rfl rfl (fun ext => D9 1 rfl (A0 rfl) rfl C4 A8 rfl) ?_
  refine S0 ?_
  refine V3 rfl rfl rfl (Q1 2 rfl rfl (A0 rfl) (A0 rfl) (D8 _) rfl A8 rfl) (fun a _ => (by first | exact E9 rfl | exact E9 (List.append_assoc _ _ _) | exact H5)) ?_
  intro _ _
  refine S6 ?_
  refine D3 3 rfl rfl rfl (A0 rfl) (A0 rfl) (D8 _) rfl A8 rfl ?_
  refine A4 ?_
  refine C8 ?_
  (refine K0 [5, 5] (((x11.2, ⟨x11.2.Floor + 1, x11.2.Cells, x11.2.Held, x11.2.Told⟩), x13.1, x13.2)) ?_ rfl (by first | (dsimp only; rfl) | rfl) (Q3 rfl (by decide) (E4 (G3 (ys := _) 2 rfl rfl C4 A8 rfl) (E4 (G3 (ys := _) 3 rfl rfl C4 A8 rfl) J6))); (refine ⟨ok11.2.1, ?_⟩; first | exact ok11.2.1 | (show sizeL TCell.size _ + sizeL THeld.size _ + _ ≤ 33045; first | exact ok11.2.1 | (rw [hh0, M8] at hsz; dsimp only; rw [M8]; exact hsz) | (rw [tt0, B5] at hsz; dsimp only; rw [B5]; exact hsz))))
 ·intro h16
  have k16 := M0 h16; try simp only [A5] at k16
  refine A3 (A2 ?_)
  refine A1 rfl rfl rfl (N3 rfl (A0 rfl) C6) ?_
  refine C2 rfl rfl rfl rfl rfl ?_
  refine A4 ?_
  refine D0 (A0 rfl) ?_ ?_
  ·intro h22
   have k22 := M1 h22; try simp only [A5] at k22
   refine A3 (A2 ?_)
   refine A1 rfl rfl rfl (B3 2 rfl B8 rfl F0 (A0 rfl) rfl) ?_
   refine A1 rfl rfl rfl (B2 1 rfl (A0 rfl) rfl H1 rfl) ?_
   refine A1 rfl rfl rfl (V4 2 rfl C9 (A0 rfl) rfl) ?_
   refine A1 rfl rfl rfl (P4 rfl (A0 rfl) C6) ?_
   refine A4 ?_
   refine D0 (A0 rfl) ?_ ?_
   ·intro h27
    have k27 := of_decide_eq_true h27; try simp only [A5] at k27
    obtain ⟨h0, hs0, hh0⟩ : ∃ h0 hs0, x11.2.Held = h0 :: hs0 := by (cases hm : x11.2.Held with | nil => (rw [hm] at h27; simp at h27) | cons y q => exact ⟨y, q, rfl⟩)
    have hlead := ok11.2.2.leads h0 (by rw [hh0]; exact List.mem_cons_self)
    have hA : ([] : List (List AV)).length = (0 : Int).toNat := rfl
    rw [show x11.2.Held.map THeld.cs = [] ++ h0.cs :: hs0.map THeld.cs from by rw [hh0]; rfl]
    refine H9 (by first | (simp only [TState.ow, TState.ocs, splice, pick, L5, L1, L2, K9, L3, List.nil_append, L6, L7, List.append_nil, L0, List.take_zero, L4, List.drop_zero]; exact rfl) | exact rfl) ?_
    refine A2 ?_
    refine A1 rfl rfl rfl (B3 2 rfl B8 rfl F0 (A0 rfl) rfl) ?_
    refine A1 rfl rfl rfl (B2 1 rfl (A0 rfl) rfl H1 rfl) ?_
    refine A1 rfl rfl rfl (U3 2 rfl C9 D4 (A0 rfl) rfl C6 (by first | omega | (simp only [A5, B1, B5, C1, B0, szR] at *; omega)) (by first | omega | (simp only [A5, B1, B5, C1, B0, szR] at *; omega))) ?_
    refine A1 rfl rfl rfl (c8 2 rfl E7 rfl C0 (A0 rfl) rfl rfl (W3 hA)) ?_
    refine A1 rfl rfl rfl (i6 2 rfl (A0 rfl) rfl C5 (W3 hA) rfl) ?_
    refine A1 rfl rfl rfl (H4 rfl (A0 rfl) C6 (by omega)) ?_
    refine A1 rfl rfl rfl (U3 2 rfl C9 D4 (A0 rfl) rfl C6 (by first | omega | (simp only [A5, B1, B5, C1, B0, szR] at *; omega)) (by first | omega | (simp only [A5, B1, B5, C1, B0, szR] at *; omega))) ?_
    refine A1 rfl rfl rfl (c8 2 rfl E7 rfl C0 (A0 rfl) rfl rfl (W3 hA)) ?_
    refine l6 2 rfl rfl rfl (A0 rfl) (A0 rfl) (L9 _ _) rfl C0 hA rfl ?_
    refine A4 (A3 ?_)
    refine H9 (by first | (simp only [TState.ow, TState.ocs, splice, pick, L5, L1, L2, K9, L3, List.nil_append, L6, L7, List.append_nil, L0, List.take_zero, L4, List.drop_zero]; exact rfl) | exact rfl) ?_
    refine AWP.le (H7 [4, 1, 4, 3] rfl) ?_
    refine M4 _ 3 (.pure 0 (.pure 1 (.e1 2 .nil))) (by kernel_rfl) (by kernel_rfl) rfl (N8 2) ?_
    refine G6 rfl rfl rfl (fun ext => D9 0 rfl (A0 rfl) rfl C4 A8 rfl) ?_
    refine G6 rfl rfl rfl (fun ext => D9 1 rfl (A0 rfl) rfl C4 A8 rfl) ?_
    refine S0 ?_
    refine V3 rfl rfl rfl (Q1 2 rfl rfl (A0 rfl) (A0 rfl) (D8 _) rfl A8 rfl) (fun a _ => (by first | exact E9 rfl | exact E9 (List.append_assoc _ _ _) | exact H5)) ?_
    intro _ _
    refine S6 ?_
    refine D3 3 rfl rfl rfl (A0 rfl) (A0 rfl) (D8 _) rfl A8 rfl ?_
    refine A4 ?_
    refine C8 ?_
    (refine K0 [5, 5] (((x11.2, ⟨x11.2.Floor, x11.2.Cells, ⟨h0.Txn, h0.Time, h0.Lead + 1, h0.Reads, h0.Writes⟩ :: hs0, x11.2.Told⟩), x13.1, x13.2)) ?_ rfl (by first | (dsimp only; rfl) | rfl) (Q3 rfl (by decide) (E4 (G3 (ys := _) 2 rfl rfl C4 A8 rfl) (E4 (G3 (ys := _) 3 rfl rfl C4 A8 rfl) J6))); (refine ⟨ok11.2.1, ?_⟩; first | exact ok11.2.1 | (show sizeL TCell.size _ + sizeL THeld.size _ + _ ≤ 33045; first | exact ok11.2.1 | (rw [hh0, M8] at hsz; dsimp only; rw [M8]; exact hsz) | (rw [tt0, B5] at hsz; dsimp only; rw [B5]; exact hsz))))
   ·intro h27
    have k27 := of_decide_eq_false h27; try simp only [A5] at k27
    refine D5 (A3 ?_)
    refine H9 (by first | (simp only [TState.ow, TState.ocs, splice, pick, L5, L1, L2, K9, L3, List.nil_append, L6, L7, List.append_nil, L0, List.take_zero, L4, List.drop_zero]; exact rfl) | exact rfl) ?_
    refine AWP.le (H7 [4, 1, 4, 3] rfl) ?_
    refine M4 _ 3 (.pure 0 (.pure 1 (.e1 2 .nil))) (by kernel_rfl) (by kernel_rfl) rfl (N8 2) ?_
    refine G6 rfl rfl rfl (fun ext => D9 0 rfl (A0 rfl) rfl C4 A8 rfl) ?_
    refine G6 rfl rfl rfl (fun ext => D9 1 rfl (A0 rfl) rfl C4 A8 rfl) ?_
    refine S0 ?_
    refine V3 rfl rfl rfl (Q1 2 rfl rfl (A0 rfl) (A0 rfl) (D8 _) rfl A8 rfl) (fun a _ => (by first | exact E9 rfl | exact E9 (List.append_assoc _ _ _) | exact H5)) ?_
    intro _ _
    refine S6 ?_
    refine D3 3 rfl rfl rfl (A0 rfl) (A0 rfl) (D8 _) rfl A8 rfl ?_
    refine A4 ?_
    refine C8 ?_
    (refine K0 [5, 5] (((x11.2, x11.2), x13.1, x13.2)) ?_ rfl (by first | (dsimp only; rfl) | rfl) (Q3 rfl (by decide) (E4 (G3 (ys := _) 2 rfl rfl C4 A8 rfl) (E4 (G3 (ys := _) 3 rfl rfl C4 A8 rfl) J6))); (refine ⟨ok11.2.1, ?_⟩; first | exact ok11.2.1 | (show sizeL TCell.size _ + sizeL THeld.size _ + _ ≤ 33045; first | exact ok11.2.1 | (rw [hh0, M8] at hsz; dsimp only; rw [M8]; exact hsz) | (rw [tt0, B5] at hsz; dsimp only; rw [B5]; exact hsz))))
  ·intro h22
   have k22 := M0 h22; try simp only [A5] at k22
   refine A3 (A2 ?_)
   refine A1 rfl rfl rfl (N3 rfl (A0 rfl) C6) ?_
   refine C2 rfl rfl rfl rfl rfl ?_
   refine A4 ?_
   refine D0 (A0 rfl) ?_ ?_
   ·intro h36
    have k36 := M1 h36; try simp only [A5] at k36
    refine A3 (A2 ?_)
    refine A1 rfl rfl rfl (B3 3 rfl B8 rfl J1 (A0 rfl) rfl) ?_
    refine A1 rfl rfl rfl (B2 1 rfl (A0 rfl) rfl N5 rfl) ?_
    refine A1 rfl rfl rfl (V4 3 rfl E5 (A0 rfl) rfl) ?_
    refine A1 rfl rfl rfl (P4 rfl (A0 rfl) C6) ?_
    refine A4 ?_
    refine D0 (A0 rfl) ?_ ?_
    ·intro h41
     have k41 := of_decide_eq_true h41; try simp only [A5] at k41
     obtain ⟨t0, ts0, tt0⟩ : ∃ h0 hs0, x11.2.Told = h0 :: hs0 := by (cases hm : x11.2.Told with | nil => (rw [hm] at h41; simp at h41) | cons y q => exact ⟨y, q, rfl⟩)
     have hA : ([] : List (List AV)).length = (0 : Int).toNat := rfl
     rw [show x11.2.Told.map TTold.cs = [] ++ t0.cs :: ts0.map TTold.cs from by rw [tt0]; rfl]
     refine H9 (by first | (simp only [TState.ow, TState.ocs, splice, pick, L5, L1, L2, K9, L3, List.nil_append, L6, L7, List.append_nil, L0, List.take_zero, L4, List.drop_zero]; exact rfl) | exact rfl) ?_
     refine AWP.le (H7 [1, 2] rfl) ?_
     refine Q6 10 (by kernel_rfl) (by kernel_rfl) rfl ?_
     refine B4 rfl rfl (B3 3 rfl B8 rfl J1 (A0 rfl) rfl) ?_
     refine B4 rfl rfl (B2 0 rfl (A0 rfl) rfl N5 rfl) ?_
     refine B4 rfl rfl (B3 3 rfl B8 rfl J1 (A0 rfl) rfl) ?_
     refine B4 rfl rfl (B2 0 rfl (A0 rfl) rfl N5 rfl) ?_
     refine B4 rfl rfl (U3 1 rfl E5 F9 (A0 rfl) rfl C6 (by first | omega | (simp only [A5, B1, B5, C1, B0, szR] at *; omega)) (by first | omega | (simp only [A5, B1, B5, C1, B0, szR] at *; omega))) ?_
     refine B4 rfl rfl (c8 1 rfl I9 rfl J7 (A0 rfl) rfl rfl (W3 hA)) ?_
     refine B4 rfl rfl (i6 1 rfl (A0 rfl) rfl K3 (W3 hA) rfl) ?_
     refine B4 rfl rfl (N1 rfl (A0 rfl)) ?_
     refine B4 rfl rfl (U3 1 rfl E5 F9 (A0 rfl) rfl C6 (by first | omega | (simp only [A5, B1, B5, C1, B0, szR] at *; omega)) (by first | omega | (simp only [A5, B1, B5, C1, B0, szR] at *; omega))) ?_
     refine B4 rfl rfl (c8 1 rfl I9 rfl J7 (A0 rfl) rfl rfl (W3 hA)) ?_
     refine O5 ?_
     refine l6 1 rfl rfl rfl (A0 rfl) (A0 rfl) (W1 _) rfl J7 hA rfl ?_
     refine A4 (A3 ?_)
     refine H9 (by first | (simp only [TState.ow, TState.ocs, splice, pick, L5, L1, L2, K9, L3, List.nil_append, L6, L7, List.append_nil, L0, List.take_zero, L4, List.drop_zero]; exact rfl) | exact rfl) ?_
     refine AWP.le (H7 [4, 0, 4, 3] rfl) ?_
     refine M4 _ 3 (.pure 0 (.pure 1 (.e1 2 .nil))) (by kernel_rfl) (by kernel_rfl) rfl (N8 2) ?_
     refine G6 rfl rfl rfl (fun ext => D9 0 rfl (A0 rfl) rfl C4 A8 rfl) ?_
     refine G6 rfl rfl rfl (fun ext => D9 1 rfl (A0 rfl) rfl C4 A8 rfl) ?_
     refine S0 ?_
     refine V3 rfl rfl rfl (Q1 2 rfl rfl (A0 rfl) (A0 rfl) (D8 _) rfl A8 rfl) (fun a _ => (by first | exact E9 rfl | exact E9 (List.append_assoc _ _ _) | exact H5)) ?_
     intro _ _
     refine S6 ?_
     refine D3 3 rfl rfl rfl (A0 rfl) (A0 rfl) (D8 _) rfl A8 rfl ?_
     refine A4 ?_
     refine C8 ?_
     (refine K0 [6, 4] (((x11.2, ⟨x11.2.Floor, x11.2.Cells, x11.2.Held, ⟨t0.Txn, !t0.Yes, t0.Time⟩ :: ts0⟩), x13.1, x13.2)) ?_ rfl (by first | (dsimp only; rfl) | rfl) (Q3 rfl (by decide) (E4 (G3 (ys := _) 2 rfl rfl C4 A8 rfl) (E4 (G3 (ys := _) 3 rfl rfl C4 A8 rfl) J6))); (refine ⟨ok11.2.1, ?_⟩; first | exact ok11.2.1 | (show sizeL TCell.size _ + sizeL THeld.size _ + _ ≤ 33045; first | exact ok11.2.1 | (rw [hh0, M8] at hsz; dsimp only; rw [M8]; exact hsz) | (rw [tt0, B5] at hsz; dsimp only; rw [B5]; exact hsz))))
    ·intro h41
     have k41 := of_decide_eq_false h41; try simp only [A5] at k41
     refine D5 (A3 ?_)
     refine H9 (by first | (simp only [TState.ow, TState.ocs, splice, pick, L5, L1, L2, K9, L3, List.nil_append, L6, L7, List.append_nil, L0, List.take_zero, L4, List.drop_zero]; exact rfl) | exact rfl) ?_
     refine AWP.le (H7 [4, 1, 4, 3] rfl) ?_
     refine M4 _ 3 (.pure 0 (.pure 1 (.e1 2 .nil))) (by kernel_rfl) (by kernel_rfl) rfl (N8 2) ?_
     refine G6 rfl rfl rfl (fun ext => D9 0 rfl (A0 rfl) rfl C4 A8 rfl) ?_
     refine G6 rfl rfl rfl (fun ext => D9 1 rfl (A0 rfl) rfl C4 A8 rfl) ?_
     refine S0 ?_
     refine V3 rfl rfl rfl (Q1 2 rfl rfl (A0 rfl) (A0 rfl) (D8 _) rfl A8 rfl) (fun a _ => (by first | exact E9 rfl | exact E9 (List.append_assoc _ _ _) | exact H5)) ?_
     intro _ _
     refine S6 ?_
     refine D3 3 rfl rfl rfl (A0 rfl) (A0 rfl) (D8 _) rfl A8 rfl ?_
     refine A4 ?_
     refine C8 ?_
     (refine K0 [5, 5] (((x11.2, x11.2), x13.1, x13.2)) ?_ rfl (by first | (dsimp only; rfl) | rfl) (Q3 rfl (by decide) (E4 (G3 (ys := _) 2 rfl rfl C4 A8 rfl) (E4 (G3 (ys := _) 3 rfl rfl C4 A8 rfl) J6))); (refine ⟨ok11.2.1, ?_⟩; first | exact ok11.2.1 | (show sizeL TCell.size _ + sizeL THeld.size _ + _ ≤ 33045; first | exact ok11.2.1 | (rw [hh0, M8] at hsz; dsimp only; rw [M8]; exact hsz) | (rw [tt0, B5] at hsz; dsimp only; rw [B5]; exact hsz))))
   ·intro h36
    have k36 := M0 h36; try simp only [A5] at k36
    refine D5 (A3 ?_)
    refine H9 (by first | (simp only [TState.ow, TState.ocs, splice, pick, L5, L1, L2, K9, L3, List.nil_append, L6, L7, List.append_nil, L0, List.take_zero, L4, List.drop_zero]; exact rfl) | exact rfl) ?_
    refine AWP.le (H7 [4, 1, 4, 3] rfl) ?_
    refine M4 _ 3 (.pure 0 (.pure 1 (.e1 2 .nil))) (by kernel_rfl) (by kernel_rfl) rfl (N8 2) ?_
    refine G6 rfl rfl rfl (fun ext => D9 0 rfl (A0 rfl) rfl C4 A8 rfl) ?_
    refine G6 rfl rfl rfl (fun ext => D9 1 rfl (A0 rfl) rfl C4 A8 rfl) ?_
    refine S0 ?_
    refine V3 rfl rfl rfl (Q1 2 rfl rfl (A0 rfl) (A0 rfl) (D8 _) rfl A8 rfl) (fun a _ => (by first | exact E9 rfl | exact E9 (List.append_assoc _ _ _) | exact H5)) ?_
    intro _ _
    refine S6 ?_
    refine D3 3 rfl rfl rfl (A0 rfl) (A0 rfl) (D8 _) rfl A8 rfl ?_
    refine A4 ?_
    refine C8 ?_
    (refine K0 [5, 5] (((x11.2, x11.2), x13.1, x13.2)) ?_ rfl (by first | (dsimp only; rfl) | rfl) (Q3 rfl (by decide) (E4 (G3 (ys := _) 2 rfl rfl C4 A8 rfl) (E4 (G3 (ys := _) 3 rfl rfl C4 A8 rfl) J6))); (refine ⟨ok11.2.1, ?_⟩; first | exact ok11.2.1 | (show sizeL TCell.size _ + sizeL THeld.size _ + _ ≤ 33045; first | exact ok11.2.1 | (rw [hh0, M8] at hsz; dsimp only; rw [M8]; exact hsz) | (rw [tt0, B5] at hsz; dsimp only; rw [B5]; exact hsz))))
theorem Ad6 (a b : List Bool) : FSpec Tryz.prog 12 [AV.list 1 (a.map fun b => [AV.bool b]), AV.list 1 (b.map fun b => [AV.bool b])] (AV.bool (decide (a = b))) := by
 refine F3 Tryz.func12 rfl Tryz.ntmps12 rfl ?_
 refine Q8 (t := 0) rfl fun hl => ?_
 try simp only [A5] at hl
 refine A3 (A2 ?_)
 refine A1 rfl rfl rfl (C3 rfl F5) ?_
 refine A4 (A3 (A3 (A2 ?_)))
 refine A6 rfl rfl rfl rfl rfl ?_
 refine A1 rfl rfl rfl (G4 rfl P9 (A0 rfl)) ?_
 refine A6 rfl rfl rfl rfl rfl ?_
 refine A1 rfl rfl rfl (G4 rfl P9 (A0 rfl)) ?_
 refine A1 rfl rfl rfl (Z7 rfl (A0 rfl) (A0 rfl)) ?_
 refine A4 ?_
 refine D0 (A0 rfl) ?_ ?_
 ·intro h10
  have k10 := W9 h10; try simp only [A5] at k10
  have hab : a ≠ b := by intro hc; subst hc; exact k10 rfl
  refine A3 (A2 ?_)
  refine A1 rfl rfl rfl (C3 rfl F5) ?_
  refine A4 ?_
  refine C8 ?_
  exact I2 rfl (D1 rfl (by exact congrArg AV.bool (by simp [hab])))
 ·intro h10
  have k10 := S8 h10; try simp only [A5] at k10
  have heq : a.length = b.length := by omega
  refine D5 (A3 (A3 (A2 ?_)))
  refine A6 rfl rfl rfl rfl rfl ?_
  refine A1 rfl rfl rfl (G4 rfl P9 (A0 rfl)) ?_
  refine A1 rfl rfl rfl (C7 rfl C6) ?_
  refine A4 (E1 ?_)
  refine K1 [(0, _), (1, _), (12, _)] _ (fun (i : Nat) => i ≤ a.length ∧ a.take i = b.take i) (fun (i : Nat) => []) (fun (i : Nat) => [(13, AV.int i)]) (fun (i : Nat) => a.length - i) (0) ?_ (J9 ⟨rfl, rfl, rfl, rfl, trivial⟩) ?_
  ·exact ⟨Nat.zero_le _, rfl⟩
  intro i hinv
  refine A3 (A2 ?_)
  refine A1 rfl rfl rfl (M2 rfl (A0 rfl) (A0 rfl)) ?_
  refine A4 (A3 ?_)
  refine D0 (A0 rfl) ?_ ?_
  ·intro h14
   have k14 := of_decide_eq_true h14; try simp only [A5] at k14
   have hlt : i < a.length := by omega
   obtain ⟨x, hx⟩ := get_some hlt
   obtain ⟨y, hy⟩ := get_some (show i < b.length by omega)
   refine D5 (A3 (E1 (A3 (A2 ?_))))
   refine A6 rfl rfl rfl rfl rfl ?_
   refine C2 rfl rfl rfl rfl rfl ?_
   refine A4 (A3 ?_)
   refine J5 (by kernel_rfl) (by kernel_rfl) rfl ?_
   refine B4 rfl rfl (C7 rfl (A0 rfl)) ?_
   refine B4 rfl rfl (C7 rfl (A0 rfl)) ?_
   refine B4 rfl rfl (J4 rfl P9 J7 (A0 rfl) (A0 rfl) hx (by first | omega | (simp only [A5, B1, B5, C1, B0, szR] at *; omega))) ?_
   refine B4 rfl rfl (N4 rfl (A0 rfl) K3 rfl) ?_
   refine B4 rfl rfl (C7 rfl (A0 rfl)) ?_
   refine B4 rfl rfl (C7 rfl (A0 rfl)) ?_
   refine B4 rfl rfl (J4 rfl P9 J7 (A0 rfl) (A0 rfl) hy (by first | omega | (simp only [A5, B1, B5, C1, B0, szR] at *; omega))) ?_
   refine B4 rfl rfl (N4 rfl (A0 rfl) K3 rfl) ?_
   refine B4 rfl rfl (AI0 rfl N7 (A0 rfl) (A0 rfl)) ?_
   refine O5 ?_
   refine D0 (A0 rfl) ?_ ?_
   ·intro h24
    have hab : a ≠ b := by intro hc; subst hc; rw [hx] at hy; injection hy with hy; subst hy; simp at h24
    refine A3 (A2 ?_)
    refine A1 rfl rfl rfl (C3 rfl F5) ?_
    refine A4 ?_
    refine C8 ?_
    exact I2 rfl (D1 rfl (by exact congrArg AV.bool (by simp [hab])))
   ·intro h24
    refine D5 (A2 ?_)
    refine A1 rfl rfl rfl (H4 rfl (A0 rfl) C6 (by first | omega | (simp only [A5, B1, B5, C1, B0, szR] at *; omega))) ?_
    refine A6 rfl rfl rfl rfl rfl ?_
    refine A4 ?_
    refine M3 i (i + 1) ?_ ?_ (J9 ⟨rfl, rfl, rfl, rfl, trivial⟩)
    ·exact ⟨by omega, W4 hinv.2 hx (by rw [hy]; congr 1; simp_all)⟩
    ·omega
  ·intro h14
   have k14 := of_decide_eq_false h14; try simp only [A5] at k14
   have hge : a.length ≤ i := by omega
   have hab : a = b := Y8 heq hinv.2 hge
   refine I4 ?_
   refine A3 (A2 ?_)
   refine A1 rfl rfl rfl (C3 rfl F5) ?_
   refine A4 ?_
   refine C8 ?_
   exact I2 rfl (D1 rfl (by exact congrArg AV.bool (by simp [hab])))
theorem Ap5 (code : List Int) (hcode : ByteL code) : GSpec Tryz.prog 14 [bytesI code] [] (fun x : Int => 0 ≤ x ∧ x < 1000003) (fun x => []) (fun x => AV.int x) := by
 refine J3 Tryz.func14 rfl Tryz.ntmps14 rfl ?_
 refine Q8 (t := 0) rfl fun hl => ?_
 try simp only [A5] at hl
 refine A3 (A2 ?_)
 refine A1 rfl rfl rfl (C3 rfl C6) ?_
 refine A4 (A3 (A2 ?_))
 refine A1 rfl rfl rfl (C3 rfl C6) ?_
 refine A4 (A3 (A3 (A2 ?_)))
 refine A6 rfl rfl rfl rfl rfl ?_
 refine A1 rfl rfl rfl (G4 rfl T9 (A0 rfl)) ?_
 refine A1 rfl rfl rfl (C7 rfl C6) ?_
 refine A4 (E1 ?_)
 refine T8 [(2, _), (6, _), (7, _)] _ (fun (i : Nat) (n : Int) => i ≤ code.length ∧ 0 ≤ n ∧ n < 1000003) (fun (i : Nat) (n : Int) => []) (fun (i : Nat) (n : Int) => [(3, AV.int n), (8, AV.int i)]) (fun (i : Nat) (n : Int) => code.length - i) (0) (0) ?_ (J9 ⟨rfl, rfl, rfl, rfl, rfl, trivial⟩) ?_
 ·exact ⟨Nat.zero_le _, by decide, by decide⟩
 intro i n hinv
 refine A3 (A2 ?_)
 refine A1 rfl rfl rfl (M2 rfl (A0 rfl) (A0 rfl)) ?_
 refine A4 (A3 ?_)
 refine D0 (A0 rfl) ?_ ?_
 ·intro h9
  have k9 := of_decide_eq_true h9; try simp only [A5] at k9
  have hlt : i < code.length := by omega
  obtain ⟨x, hx⟩ := get_some hlt
  have hxb := hcode x (H2 hx)
  have hwx : IntKind.i64.wrap x = x := AG3 (hcode x (H2 hx))
  refine D5 (A3 (E1 (A3 (A2 ?_))))
  refine A1 rfl rfl rfl (J4 rfl T9 Tryz.sizeOf5 (A0 rfl) (A0 rfl) hx (by first | omega | (simp only [A5, B1, B5, C1, B0, szR] at *; omega))) ?_
  refine A1 rfl rfl rfl (N4 rfl (A0 rfl) Tryz.isAgg5 rfl) ?_
  refine C2 rfl rfl rfl rfl rfl ?_
  refine A4 (A2 ?_)
  refine A6 rfl rfl rfl rfl rfl ?_
  refine A1 rfl rfl rfl (w_muli rfl C6 (A0 rfl) (by first | omega | (simp only [A5, B1, B5, C1, B0, szR] at *; omega))) ?_
  refine A6 rfl rfl rfl rfl rfl ?_
  refine A1 rfl rfl rfl (g7 rfl (by kernel_rfl) O3 (A0 rfl)) ?_
  refine A1 rfl rfl rfl (H4 rfl (A0 rfl) (A0 rfl) (by rw [AG3 hxb]; omega)) ?_
  refine A1 rfl rfl rfl (Aj8 rfl (A0 rfl) C6 (by first | omega | (simp only [A5, B1, B5, C1, B0, szR] at *; omega))) ?_
  refine C2 rfl rfl rfl rfl rfl ?_
  refine A4 (A2 ?_)
  refine A1 rfl rfl rfl (H4 rfl (A0 rfl) C6 (by first | omega | (simp only [A5, B1, B5, C1, B0, szR] at *; omega))) ?_
  refine A6 rfl rfl rfl rfl rfl ?_
  refine A4 ?_
  refine S3 i n (i + 1) (Int.tmod (31 * n + IntKind.i64.wrap x) 1000003) ?_ ?_ (J9 ⟨rfl, rfl, rfl, rfl, rfl, trivial⟩)
  ·(rw [hwx]; exact ⟨by omega, Int.tmod_nonneg _ (by omega), Int.tmod_lt_of_pos _ (by decide)⟩)
  ·omega
 ·intro h9
  have k9 := of_decide_eq_false h9; try simp only [A5] at k9
  refine I4 ?_
  refine A3 (A2 ?_)
  refine A6 rfl rfl rfl rfl rfl ?_
  refine C2 rfl rfl rfl rfl rfl ?_
  refine A4 ?_
  refine C8 ?_
  (refine K0 [] (n) ?_ rfl (by first | (dsimp only; rfl) | rfl) (P3 rfl (D1 rfl (by rfl))); exact hinv.2)
end Go.Proofs.YtnlhbdkcgaeimaaGreat

set_option linter.unusedVariables false
set_option linter.unusedSimpArgs false
namespace Go.M
open Go.AV
theorem As4 {l : List TRec} (h : (stateOfR l).2.2 = true) : stateOfR l = (stFrom zState l, didFrom zState l, true) ∧ l.length ≤ 60 ∧ (∀ r ∈ l, goodRec r = true) := by
  unfold stateOfR at *
  split at h
  · rename_i h9; rw [if_pos h9]; exact ⟨rfl, h9.1, List.all_eq_true.1 h9.2⟩
  · cases h
theorem As5 {l : List TRec} (h : l.length ≤ 60) (hg : ∀ r ∈ l, goodRec r = true) : stateOfR l = (stFrom zState l, didFrom zState l, true) := if_pos ⟨h, List.all_eq_true.2 hg⟩
theorem Aj6 {l : List TRec} (hl : l.length ≤ 12) (hs : ∀ r ∈ l, r.size ≤ 1002) : (stateOfR l).1.size ≤ 40000 := by
  unfold stateOfR
  split
  · have h1 := w4 (stFrom zState l)
    have h2 := w5 (m := 1002) (s := zState) (l := l) hs
    have h3 : phi zState = 0 := rfl
    have h5 : l.length * (3 * (1 + 1002) + 1) ≤ 12 * 3010 := Nat.mul_le_mul hl (by decide)
    show (stFrom zState l).size ≤ _
    omega
  · decide
theorem BB6 {l : List TRec} (h : ∀ r ∈ l, goodRec r = true) : goodState (stFrom zState l) = true := W6.2 (AD8 AD7 h)
theorem told_out {s : TState} (g : GS s) {t : TTold} (h : t ∈ s.Told) : outcomeR s t.Txn = (t, true) ∧ heldR s t.Txn = (zHeld, false) := by
  have hg := W6.2 g
  constructor
  · unfold outcomeR; rw [if_pos hg, Ah2 g.tsort h]
  · have h1 := f0.1 (g.told t h).2.2
    have h2 : findH s.Held t.Txn = none := by
      unfold findH
      exact List.find?_eq_none.2 fun x hx => by simpa using h1 x hx
    unfold heldR; rw [if_pos hg, h2]
theorem Aa9 {s : TState} {r : TRec} (h : (applyRecR s r).2 = true) : goodState (applyRecR s r).1 = true := by
  by_cases hg : goodState s = true ∧ goodRec r = true
  · rw [Ad4 s r hg] at h ⊢
    split at h
    · rename_i h2; rw [if_pos h2]; exact W6.2 (Am8 (W6.1 hg.1) hg.2 h2)
    · cases h
  · unfold applyRecR at h; rw [if_neg hg] at h; cases h
theorem Ab0 {s : TState} {r : TRec} (hs : s.size ≤ 33045) (hr : r.size ≤ 1002) : (applyRecR s r).1.size ≤ 1048576 := by
  by_cases hg : goodState s = true ∧ goodRec r = true
  · rw [Ad4 s r hg]
    split
    · have h1 := w4 (applyS s r).1
      have h2 := Ah3 s r
      have h3 : phi s ≤ 3 * s.size := by
        have h4 : s.size = sizeL TCell.size s.Cells + sizeL THeld.size s.Held + s.Told.length := rfl
        unfold phi; omega
      show (applyS s r).1.size ≤ _
      omega
    · decide
  · unfold applyRecR; rw [if_neg hg]; decide
end Go.M

set_option linter.unusedVariables false
set_option linter.unusedSimpArgs false
set_option maxRecDepth 100000
set_option maxHeartbeats 2000000
namespace Go.Proofs.YtnlhbdkcgaeimaaGreat
open Go Go.AV Go.M
open Go.ChangeShapes Go.WideShapes Go.ChangeAt Go.RowKit
section
attribute [local irreducible] OpW OpA OpS AWP FSpec ESpec GSpec OpE RetOk RetOkG RvDen Le Ev GuardIs SrcIs SrcE
theorem AB9 (code : List Int) (hcode : ByteL code) : GSpec Tryz.prog 25 [bytesI code] [] (fun x : TState × TState => x.1.size ≤ 33045 ∧ x.2.size ≤ 33045) (fun x => []) (fun x => AV.tup [AV.agg x.1.cs, AV.agg x.2.cs]) :=
  y9 (fun x => x.1) (fun x => TState.ow x.1.2 x.2) (fun x => []) (AR4 code hcode) (fun _ h => h) (fun x _ => AI3 (H6 N0 (H6 (X8 (TState.lc _ _)) U4))) (fun x _ => (List.append_nil _).symm ▸ List.Perm.refl _) (fun _ _ => P6) (fun x _ => AZ5)
theorem Ap6 (code : List Int) (hc : ∀ x ∈ code, (Lit.int .u8 x).wf = true) (more : List Int) (hm : ∀ x ∈ more, (Lit.int .u8 x).wf = true) : FSpec Tryz.prog 3 [bytesI code, bytesI more] (AV.bool true) := by
 refine F3 Tryz.func3 rfl Tryz.ntmps3 rfl ?_
 refine A3 (A2 ?_)
 refine A1 rfl rfl rfl (C3 rfl F5) ?_
 refine A4 (A3 (A3 (A2 ?_)))
 refine A6 rfl rfl rfl rfl rfl ?_
 refine A6 rfl rfl rfl rfl rfl ?_
 refine A1 rfl rfl rfl (F1 rfl Tryz.call8 rfl (big_spec _ _) (A7 (A0 rfl) (A7 (A0 rfl) D2))) ?_
 refine A4 ?_
 refine D0 (A0 rfl) ?_ ?_
 ·intro h42
  refine A3 (A2 ?_)
  refine A1 rfl rfl rfl (C3 rfl F5) ?_
  refine A4 ?_
  refine C8 ?_
  exact I2 rfl (D1 rfl (by first | rfl | exact congrArg AV.bool (by simp)))
 ·intro h42
  have hb0 : ByteL code := An1 hc
  have hb1 : ByteL more := An1 hm
  refine D5 (A3 (A2 ?_))
  refine A6 rfl rfl rfl rfl rfl ?_
  refine I8 [] rfl rfl rfl rfl Tryz.call9 rfl (Aa8 code hb0) (A7 (A0 rfl) D2) rfl ?_
  intro x44 ok44
  obtain ⟨l, hx44⟩ : ∃ z, x44 = z := ⟨_, rfl⟩
  subst hx44
  obtain ⟨hl12, hlsz⟩ := ok44
  have hsR := Aj6 hl12 hlsz
  refine C2 rfl rfl rfl rfl rfl ?_
  refine A4 (A3 (A2 ?_))
  refine A6 rfl rfl rfl rfl rfl ?_
  refine A1 rfl rfl rfl (F1 rfl Tryz.call10 rfl (AN3 x44 (by omega) (fun r hr => Nat.le_trans (hlsz r hr) (by decide))) (A7 (A0 rfl) D2)) ?_
  refine A6 rfl rfl rfl rfl rfl ?_
  refine A1 rfl rfl rfl (F6 rfl (A0 rfl) rfl) ?_
  refine A1 rfl rfl rfl (F6 rfl (A0 rfl) rfl) ?_
  refine A1 rfl rfl rfl (F6 rfl (A0 rfl) rfl) ?_
  refine F4 rfl rfl rfl rfl Tryz.zeroValue30 rfl ?_
  intro b6
  refine D3 0 rfl rfl rfl (A0 rfl) (A0 rfl) (D8 _) rfl A8 rfl ?_
  refine C2 rfl rfl rfl rfl rfl ?_
  refine C2 rfl rfl rfl rfl rfl ?_
  refine A4 (A3 (A2 ?_))
  refine A6 rfl rfl rfl rfl rfl ?_
  refine A1 rfl rfl rfl (F1 rfl Tryz.call11 rfl (Ad5 x44 (by omega) (fun r hr => Nat.le_trans (hlsz r hr) (by decide))) (A7 (A0 rfl) D2)) ?_
  refine A6 rfl rfl rfl rfl rfl ?_
  refine A1 rfl rfl rfl (F6 rfl (A0 rfl) rfl) ?_
  refine A1 rfl rfl rfl (F6 rfl (A0 rfl) rfl) ?_
  refine A1 rfl rfl rfl (F6 rfl (A0 rfl) rfl) ?_
  refine F4 rfl rfl rfl rfl Tryz.zeroValue30 rfl ?_
  intro b9
  refine D3 0 rfl rfl rfl (A0 rfl) (A0 rfl) (D8 _) rfl A8 rfl ?_
  refine C2 rfl rfl rfl rfl rfl ?_
  refine C2 rfl rfl rfl rfl rfl ?_
  refine A4 (A3 (A3 (A2 ?_)))
  refine A6 rfl rfl rfl rfl rfl ?_
  refine A6 rfl rfl rfl rfl rfl ?_
  refine A1 rfl rfl rfl (AI0 rfl N7 (A0 rfl) (A0 rfl)) ?_
  refine A6 rfl rfl rfl rfl rfl ?_
  refine B7 rfl rfl (D6 rfl rfl rfl) (fun hc => C7 rfl (A0 rfl)) ?_
  refine B7 rfl rfl (D6 rfl rfl rfl) (fun hc => C7 rfl (A0 rfl)) ?_
  refine B7 rfl rfl (D6 rfl rfl rfl) (fun hc => F1 rfl Tryz.call12 rfl (Ad6 _ _) (A7 (A9 rfl hc) (A7 (A9 rfl hc) D2))) ?_
  refine B7 rfl rfl (D6 rfl rfl rfl) (fun hc => N1 rfl (A9 rfl hc)) ?_
  refine A1 rfl rfl rfl (R4 rfl (A0 rfl) (G2 rfl)) ?_
  refine A6 rfl rfl rfl rfl rfl ?_
  refine B7 rfl rfl (D6 rfl rfl rfl) (fun hc => D9 1 rfl (A0 rfl) rfl C4 A8 rfl) ?_
  refine B7 rfl rfl (D6 rfl rfl rfl) (fun hc => D9 0 rfl (A0 rfl) rfl C4 A8 rfl) ?_
  refine B7 rfl rfl (D6 rfl rfl rfl) (fun hc => F1 rfl Tryz.call13 rfl (i0 _ _ (by omega)) (A7 (A9 rfl hc) (A7 (A9 rfl hc) D2))) ?_
  refine B7 rfl rfl (D6 rfl rfl rfl) (fun hc => N1 rfl (A9 rfl hc)) ?_
  refine A1 rfl rfl rfl (R4 rfl (A0 rfl) (G2 rfl)) ?_
  refine A4 ?_
  refine D0 (A0 rfl) ?_ ?_
  ·intro h71
   exfalso; simp at h71
  ·intro h71
   refine D5 (A3 (A3 (A2 ?_)))
   refine A6 rfl rfl rfl rfl rfl ?_
   refine A4 ?_
   refine D0 (A0 rfl) ?_ ?_
   ·intro h72
    obtain ⟨he, hl6, hgl⟩ := As4 h72
    have hgs := AD8 AD7 hgl
    have hgS := BB6 hgl
    have hsS : (stFrom zState x44).size ≤ 40000 := by (rw [he] at hsR; exact hsR)
    rw [he]
    refine A3 (A2 ?_)
    refine A6 rfl rfl rfl rfl rfl ?_
    refine I8 [] rfl rfl rfl rfl Tryz.call14 rfl (Ap5 more hb1) (A7 (A0 rfl) D2) rfl ?_
    intro x74 ok74
    obtain ⟨k, hk, hkl⟩ : ∃ k : Nat, Int.tmod x74 (((x44.map TRec.cs).length : Int) + 1) = (k : Int) ∧ k ≤ x44.length := ⟨(Int.tmod x74 (((x44.map TRec.cs).length : Int) + 1)).toNat, by rw [Int.toNat_of_nonneg (Int.tmod_nonneg _ ok74.1)], by (have h1 := Int.tmod_nonneg (((x44.map TRec.cs).length : Int) + 1) ok74.1; have h2 := Int.tmod_lt_of_pos x74 (show (0 : Int) < ((x44.map TRec.cs).length : Int) + 1 by omega); simp only [A5] at h1 h2 ⊢; omega)⟩
    have hlt : (x44.take k).length ≤ 12 := by (rw [B1]; omega)
    have hts : ∀ r ∈ x44.take k, r.size ≤ 1002 := fun r hr => hlsz r (List.mem_of_mem_take hr)
    have hke := Ax4 hgl k
    have htg : ∀ r ∈ x44.take k, goodRec r = true := fun r hr => hgl r (List.mem_of_mem_take hr)
    have hep := As5 (show (x44.take k).length ≤ 60 by omega) htg
    refine A6 rfl rfl rfl rfl rfl ?_
    refine A1 rfl rfl rfl (G4 rfl K2 (A0 rfl)) ?_
    refine A1 rfl rfl rfl (H4 rfl (A0 rfl) C6 (by first | omega | (simp only [A5, B1, B5, C1, B0, szR] at *; omega))) ?_
    refine A1 rfl rfl rfl (Aj8 rfl (A0 rfl) (A0 rfl) (by omega)) ?_
    rw [hk]
    refine C2 rfl rfl rfl rfl rfl ?_
    refine A4 (A3 (A2 ?_))
    refine A6 rfl rfl rfl rfl rfl ?_
    refine A6 rfl rfl rfl rfl rfl ?_
    refine A1 rfl rfl rfl (AA4 rfl K2 E0 (A0 rfl) (A0 rfl) (by first | omega | (simp only [A5, B1, B5, C1, B0, szR] at *; omega)) (by first | omega | (simp only [A5, B1, B5, C1, B0, szR] at *; omega))) ?_
    refine A1 rfl rfl rfl (F1 rfl Tryz.call10 rfl (AN3 (x44.take k) (by omega) (fun r hr => Nat.le_trans (hts r hr) (by decide))) (A7 (A0 rfl) D2)) ?_
    refine A6 rfl rfl rfl rfl rfl ?_
    refine A1 rfl rfl rfl (F6 rfl (A0 rfl) rfl) ?_
    refine A1 rfl rfl rfl (F6 rfl (A0 rfl) rfl) ?_
    refine A1 rfl rfl rfl (F6 rfl (A0 rfl) rfl) ?_
    refine F4 rfl rfl rfl rfl Tryz.zeroValue30 rfl ?_
    intro b13
    refine D3 0 rfl rfl rfl (A0 rfl) (A0 rfl) (D8 _) rfl A8 rfl ?_
    refine C2 rfl rfl rfl rfl rfl ?_
    refine C2 rfl rfl rfl rfl rfl ?_
    refine A4 (A3 (A3 (A2 ?_)))
    refine A1 rfl rfl rfl (D9 2 rfl (A0 rfl) rfl C4 A8 rfl) ?_
    refine A1 rfl rfl rfl (F1 rfl Tryz.call15 rfl (Y0 (stFrom zState x44) (by omega)) (A7 (A0 rfl) D2)) ?_
    refine A1 rfl rfl rfl (N1 rfl (A0 rfl)) ?_
    refine A6 rfl rfl rfl rfl rfl ?_
    refine B7 rfl rfl (D6 rfl rfl rfl) (fun hc => C7 rfl (A0 rfl)) ?_
    refine B7 rfl rfl (D6 rfl rfl rfl) (fun hc => N1 rfl (A9 rfl hc)) ?_
    refine A1 rfl rfl rfl (R4 rfl (A0 rfl) (G2 rfl)) ?_
    refine A6 rfl rfl rfl rfl rfl ?_
    refine B7 rfl rfl (D6 rfl rfl rfl) (fun hc => B3 0 rfl B8 rfl C0 (A0 rfl) rfl) ?_
    refine B7 rfl rfl (D6 rfl rfl rfl) (fun hc => B2 0 rfl (A9 rfl hc) rfl C5 rfl) ?_
    refine B7 rfl rfl (D6 rfl rfl rfl) (fun hc => B3 0 rfl B8 rfl C0 (A0 rfl) rfl) ?_
    refine B7 rfl rfl (D6 rfl rfl rfl) (fun hc => B2 2 rfl (A9 rfl hc) rfl C5 rfl) ?_
    refine B7 rfl rfl (D6 rfl rfl rfl) (fun hc => P4 rfl (A9 rfl hc) (A9 rfl hc)) ?_
    refine A1 rfl rfl rfl (R4 rfl (A0 rfl) (G2 rfl)) ?_
    refine A6 rfl rfl rfl rfl rfl ?_
    refine B7 rfl rfl (D6 rfl rfl rfl) (fun hc => B3 3 rfl B8 rfl J1 (A0 rfl) rfl) ?_
    refine B7 rfl rfl (D6 rfl rfl rfl) (fun hc => B2 0 rfl (A9 rfl hc) rfl N5 rfl) ?_
    refine B7 rfl rfl (D6 rfl rfl rfl) (fun hc => G4 rfl E5 (A9 rfl hc)) ?_
    refine B7 rfl rfl (D6 rfl rfl rfl) (fun hc => B3 3 rfl B8 rfl J1 (A0 rfl) rfl) ?_
    refine B7 rfl rfl (D6 rfl rfl rfl) (fun hc => B2 2 rfl (A9 rfl hc) rfl N5 rfl) ?_
    refine B7 rfl rfl (D6 rfl rfl rfl) (fun hc => G4 rfl E5 (A9 rfl hc)) ?_
    refine B7 rfl rfl (D6 rfl rfl rfl) (fun hc => P4 rfl (A9 rfl hc) (A9 rfl hc)) ?_
    refine A1 rfl rfl rfl (R4 rfl (A0 rfl) (G2 rfl)) ?_
    refine A4 ?_
    refine D0 (A0 rfl) ?_ ?_
    ·intro h109
     exfalso; rw [hep] at h109; have h1 := hke.floor; have h2 := hke.tlen; simp [hgS] at h109; omega
    ·intro h109
     refine D5 (A3 (A2 ?_))
     refine A1 rfl rfl rfl (B3 3 rfl B8 rfl J1 (A0 rfl) rfl) ?_
     refine A1 rfl rfl rfl (B2 0 rfl (A0 rfl) rfl N5 rfl) ?_
     refine A1 rfl rfl rfl (G4 rfl E5 (A0 rfl)) ?_
     refine A1 rfl rfl rfl (C7 rfl C6) ?_
     refine A4 (E1 ?_)
     refine AWP.le (H7 [2, 1, 0] rfl) ?_
     refine K1 [(1, _), (6, _), (111, _), (112, _)] _ (fun (i : Nat) => i ≤ (stFrom zState (x44.take k)).Told.length) (fun (i : Nat) => [.box b6 30 (stFrom zState x44).cs, .box b9 30 (stFrom zState x44).cs, .box b13 30 (stateOfR (x44.take k)).1.cs]) (fun (i : Nat) => [(113, AV.int i)]) (fun (i : Nat) => (stFrom zState (x44.take k)).Told.length - i) (0) ?_ (U7 (by rfl) ⟨rfl, rfl, rfl, rfl, rfl, trivial⟩) ?_
     ·exact Nat.zero_le _
     intro i hinv
     refine A3 (A2 ?_)
     refine A1 rfl rfl rfl (M2 rfl (A0 rfl) (A0 rfl)) ?_
     refine A4 (A3 ?_)
     refine D0 (A0 rfl) ?_ ?_
     ·intro h114
      have k114 := of_decide_eq_true h114; try simp only [A5] at k114
      have htl6 := (AD8 AD7 htg).tlen
      have hlt : i < (stFrom zState (x44.take k)).Told.length := by (rw [hep] at h114; simpa using h114)
      obtain ⟨t, hx⟩ := get_some hlt
      obtain ⟨ho1, ho2⟩ := told_out hgs (hke.told t (H2 hx))
      refine D5 (A3 (E1 (A3 (A2 ?_))))
      refine A1 rfl rfl rfl (J4 rfl E5 F9 (A0 rfl) (A0 rfl) (by rw [hep]; exact hx) (by first | omega | (simp only [A5, B1, B5, C1, B0, szR] at *; omega))) ?_
      refine A1 rfl rfl rfl (K7 rfl (A0 rfl) P7 F9) ?_
      refine F4 rfl rfl rfl rfl Tryz.zeroValue39 rfl ?_
      intro b17
      refine D3 0 rfl rfl rfl (A0 rfl) (A0 rfl) (D8 _) rfl F9 rfl ?_
      refine A4 (A3 (A2 ?_))
      refine A1 rfl rfl rfl (D9 1 rfl (A0 rfl) rfl C4 A8 rfl) ?_
      refine A1 rfl rfl rfl (B3 0 rfl I9 rfl C0 (A0 rfl) rfl) ?_
      refine A1 rfl rfl rfl (B2 0 rfl (A0 rfl) rfl C5 rfl) ?_
      refine A1 rfl rfl rfl (F1 rfl Tryz.call16 rfl (w6 (stFrom zState x44) t.Txn (by omega)) (A7 (A0 rfl) (A7 (A0 rfl) D2))) ?_
      refine A6 rfl rfl rfl rfl rfl ?_
      refine A1 rfl rfl rfl (F6 rfl (A0 rfl) rfl) ?_
      refine A1 rfl rfl rfl (F6 rfl (A0 rfl) rfl) ?_
      refine F4 rfl rfl rfl rfl Tryz.zeroValue39 rfl ?_
      intro b18
      refine D3 0 rfl rfl rfl (A0 rfl) (A0 rfl) (D8 _) rfl F9 rfl ?_
      refine C2 rfl rfl rfl rfl rfl ?_
      refine A4 (A3 (A2 ?_))
      refine A1 rfl rfl rfl (D9 2 rfl (A0 rfl) rfl C4 A8 rfl) ?_
      refine A1 rfl rfl rfl (B3 0 rfl I9 rfl C0 (A0 rfl) rfl) ?_
      refine A1 rfl rfl rfl (B2 1 rfl (A0 rfl) rfl C5 rfl) ?_
      refine A1 rfl rfl rfl (F1 rfl Tryz.call17 rfl (AF0 (stFrom zState x44) t.Txn (by omega)) (A7 (A0 rfl) (A7 (A0 rfl) D2))) ?_
      refine A6 rfl rfl rfl rfl rfl ?_
      refine A1 rfl rfl rfl (F6 rfl (A0 rfl) rfl) ?_
      refine A1 rfl rfl rfl (F6 rfl (A0 rfl) rfl) ?_
      refine F4 rfl rfl rfl rfl Tryz.zeroValue45 rfl ?_
      intro b20
      refine D3 0 rfl rfl rfl (A0 rfl) (A0 rfl) (D8 _) rfl D4 rfl ?_
      refine C2 rfl rfl rfl rfl rfl ?_
      refine A4 (A3 (A2 ?_))
      refine A6 rfl rfl rfl rfl rfl ?_
      refine A1 rfl rfl rfl (N1 rfl (A0 rfl)) ?_
      refine A6 rfl rfl rfl rfl rfl ?_
      refine B7 rfl rfl (D6 rfl rfl rfl) (fun hc => D9 1 rfl (A0 rfl) rfl P7 F9 rfl) ?_
      refine B7 rfl rfl (D6 rfl rfl rfl) (fun hc => D9 2 rfl (A0 rfl) rfl P7 F9 rfl) ?_
      refine B7 rfl rfl (D6 rfl rfl rfl) (fun hc => AA2 rfl I9 (by kernel_rfl) (by kernel_rfl) (A9 rfl hc) (A9 rfl hc) (R7 (by kernel_rfl) C5 rfl rfl (f7 O3) (R7 (by kernel_rfl) K3 rfl rfl (i5 N7) (R7 (by kernel_rfl) C5 rfl rfl (f7 O3) m6)))) ?_
      refine A1 rfl rfl rfl (R4 rfl (A0 rfl) (G2 rfl)) ?_
      refine A6 rfl rfl rfl rfl rfl ?_
      refine B7 rfl rfl (D6 rfl rfl rfl) (fun hc => C7 rfl (A0 rfl)) ?_
      refine A1 rfl rfl rfl (R4 rfl (A0 rfl) (G2 rfl)) ?_
      refine A4 ?_
      refine D0 (A0 rfl) ?_ ?_
      ·intro h140
       exfalso; rw [ho1, ho2] at h140; simp at h140
      ·intro h140
       refine D5 (A2 ?_)
       refine A1 rfl rfl rfl (H4 rfl (A0 rfl) C6 (by first | omega | (simp only [A5, B1, B5, C1, B0, szR] at *; omega))) ?_
       refine A6 rfl rfl rfl rfl rfl ?_
       refine A4 ?_
       refine M3 i (i + 1) ?_ ?_ (Le.trans (H7 [0, 0, 0, 0, 0, 0] rfl) (P1 3 (by rfl) ⟨rfl, rfl, rfl, rfl, rfl, trivial⟩))
       ·exact (by omega)
       ·omega
     ·intro h114
      have k114 := of_decide_eq_false h114; try simp only [A5] at k114
      refine I4 ?_
      refine A3 (A2 ?_)
      refine A6 rfl rfl rfl rfl rfl ?_
      refine I8 [] rfl rfl rfl rfl Tryz.call18 rfl (AF5 more hb1) (A7 (A0 rfl) D2) rfl ?_
      intro x144 ok144
      obtain ⟨⟨s, r⟩, hx144⟩ : ∃ z, x144 = z := ⟨_, rfl⟩
      subst hx144
      obtain ⟨hss, hrr⟩ := ok144
      dsimp only at hss hrr ⊢
      have haz := Ab0 hss hrr
      refine A6 rfl rfl rfl rfl rfl ?_
      refine A1 rfl rfl rfl (F6 rfl (A0 rfl) rfl) ?_
      refine A1 rfl rfl rfl (F6 rfl (A0 rfl) rfl) ?_
      refine F4 rfl rfl rfl rfl Tryz.zeroValue30 rfl ?_
      intro b22
      refine F4 rfl rfl rfl rfl Tryz.zeroValue49 rfl ?_
      intro b23
      refine D3 1 rfl rfl rfl (A0 rfl) (A0 rfl) (D8 _) rfl A8 rfl ?_
      refine D3 0 rfl rfl rfl (A0 rfl) (A0 rfl) (D8 _) rfl E0 rfl ?_
      refine A4 (A3 (A2 ?_))
      refine A1 rfl rfl rfl (D9 1 rfl (A0 rfl) rfl C4 A8 rfl) ?_
      refine A1 rfl rfl rfl (D9 0 rfl (A0 rfl) rfl G5 E0 rfl) ?_
      refine A1 rfl rfl rfl (F1 rfl Tryz.call19 rfl (AN2 s r (by omega) (by omega)) (A7 (A0 rfl) (A7 (A0 rfl) D2))) ?_
      refine A6 rfl rfl rfl rfl rfl ?_
      refine A1 rfl rfl rfl (F6 rfl (A0 rfl) rfl) ?_
      refine A1 rfl rfl rfl (F6 rfl (A0 rfl) rfl) ?_
      refine F4 rfl rfl rfl rfl Tryz.zeroValue30 rfl ?_
      intro b24
      refine D3 0 rfl rfl rfl (A0 rfl) (A0 rfl) (D8 _) rfl A8 rfl ?_
      refine C2 rfl rfl rfl rfl rfl ?_
      refine A4 (A3 (A2 ?_))
      refine A1 rfl rfl rfl (D9 2 rfl (A0 rfl) rfl C4 A8 rfl) ?_
      refine A1 rfl rfl rfl (D9 1 rfl (A0 rfl) rfl G5 E0 rfl) ?_
      refine A1 rfl rfl rfl (F1 rfl Tryz.call20 rfl (AJ7 s r (by omega) (by omega)) (A7 (A0 rfl) (A7 (A0 rfl) D2))) ?_
      refine A6 rfl rfl rfl rfl rfl ?_
      refine A1 rfl rfl rfl (F6 rfl (A0 rfl) rfl) ?_
      refine A1 rfl rfl rfl (F6 rfl (A0 rfl) rfl) ?_
      refine F4 rfl rfl rfl rfl Tryz.zeroValue30 rfl ?_
      intro b26
      refine D3 0 rfl rfl rfl (A0 rfl) (A0 rfl) (D8 _) rfl A8 rfl ?_
      refine C2 rfl rfl rfl rfl rfl ?_
      refine A4 (A3 (A3 ?_))
      refine J5 (by kernel_rfl) (by kernel_rfl) rfl ?_
      refine B4 rfl rfl (C7 rfl (A0 rfl)) ?_
      refine B4 rfl rfl (C7 rfl (A0 rfl)) ?_
      refine B4 rfl rfl (AI0 rfl N7 (A0 rfl) (A0 rfl)) ?_
      refine B4 rfl rfl (C7 rfl (A0 rfl)) ?_
      refine D7 rfl (D6 rfl rfl rfl) (fun hc => D9 1 rfl (A0 rfl) rfl C4 A8 rfl) ?_
      refine D7 rfl (D6 rfl rfl rfl) (fun hc => D9 0 rfl (A0 rfl) rfl C4 A8 rfl) ?_
      refine D7 rfl (D6 rfl rfl rfl) (fun hc => F1 rfl Tryz.call13 rfl (i0 (applyRecR s r).1 (applyRecR s r).1 haz) (A7 (A9 rfl hc) (A7 (A9 rfl hc) D2))) ?_
      refine D7 rfl (D6 rfl rfl rfl) (fun hc => N1 rfl (A9 rfl hc)) ?_
      refine B4 rfl rfl (R4 rfl (A0 rfl) (G2 rfl)) ?_
      refine B4 rfl rfl (C7 rfl (A0 rfl)) ?_
      refine D7 rfl (D6 rfl rfl rfl) (fun hc => D9 3 rfl (A0 rfl) rfl C4 A8 rfl) ?_
      refine D7 rfl (D6 rfl rfl rfl) (fun hc => F1 rfl Tryz.call15 rfl (Y0 s (by omega)) (A7 (A9 rfl hc) D2)) ?_
      refine D7 rfl (D6 rfl rfl rfl) (fun hc => D9 3 rfl (A0 rfl) rfl C4 A8 rfl) ?_
      refine D7 rfl (D6 rfl rfl rfl) (fun hc => F1 rfl Tryz.call21 rfl (AF3 s (by omega)) (A7 (A9 rfl hc) D2)) ?_
      refine D7 rfl (D6 rfl rfl rfl) (fun hc => AI0 rfl N7 (A9 rfl hc) (A9 rfl hc)) ?_
      refine B4 rfl rfl (R4 rfl (A0 rfl) (G2 rfl)) ?_
      refine O5 ?_
      refine D0 (A0 rfl) ?_ ?_
      ·intro h174
       exfalso; simp at h174
      ·intro h174
       refine D5 (A3 (A3 (A2 ?_)))
       refine A6 rfl rfl rfl rfl rfl ?_
       refine A6 rfl rfl rfl rfl rfl ?_
       refine B7 rfl rfl (B9 rfl rfl rfl) (fun hc => D9 1 rfl (A0 rfl) rfl C4 A8 rfl) ?_
       refine B7 rfl rfl (B9 rfl rfl rfl) (fun hc => F1 rfl Tryz.call15 rfl (Y0 (applyRecR s r).1 haz) (A7 (A9 rfl hc) D2)) ?_
       refine B7 rfl rfl (B9 rfl rfl rfl) (fun hc => N1 rfl (A9 rfl hc)) ?_
       refine A1 rfl rfl rfl (H8 rfl (A0 rfl) (G2 rfl)) ?_
       refine A4 ?_
       refine D0 (A0 rfl) ?_ ?_
       ·intro h180
        exfalso; simp only [Bool.and_eq_true, Bool.not_eq_true'] at h180; rw [Aa9 h180.1] at h180; cases h180.2
       ·intro h180
        refine D5 (A3 (A2 ?_))
        refine A6 rfl rfl rfl rfl rfl ?_
        refine I8 [] rfl rfl rfl rfl Tryz.call22 rfl (AB8 more hb1) (A7 (A0 rfl) D2) rfl ?_
        intro x183 ok183
        obtain ⟨⟨c, n⟩, hx183⟩ : ∃ z, x183 = z := ⟨_, rfl⟩
        subst hx183
        have hcs : c.size ≤ 33045 := ok183
        dsimp only
        refine A6 rfl rfl rfl rfl rfl ?_
        refine A1 rfl rfl rfl (F6 rfl (A0 rfl) rfl) ?_
        refine A1 rfl rfl rfl (F6 rfl (A0 rfl) rfl) ?_
        refine F4 rfl rfl rfl rfl Tryz.zeroValue30 rfl ?_
        intro b28
        refine D3 0 rfl rfl rfl (A0 rfl) (A0 rfl) (D8 _) rfl A8 rfl ?_
        refine C2 rfl rfl rfl rfl rfl ?_
        refine A4 (A3 (A2 ?_))
        refine A1 rfl rfl rfl (D9 0 rfl (A0 rfl) rfl C4 A8 rfl) ?_
        refine A6 rfl rfl rfl rfl rfl ?_
        refine A1 rfl rfl rfl (F1 rfl Tryz.call16 rfl (w6 c n (by omega)) (A7 (A0 rfl) (A7 (A0 rfl) D2))) ?_
        refine A6 rfl rfl rfl rfl rfl ?_
        refine A1 rfl rfl rfl (F6 rfl (A0 rfl) rfl) ?_
        refine A1 rfl rfl rfl (F6 rfl (A0 rfl) rfl) ?_
        refine F4 rfl rfl rfl rfl Tryz.zeroValue39 rfl ?_
        intro b30
        refine D3 0 rfl rfl rfl (A0 rfl) (A0 rfl) (D8 _) rfl F9 rfl ?_
        refine C2 rfl rfl rfl rfl rfl ?_
        refine A4 (A3 (A2 ?_))
        refine A1 rfl rfl rfl (D9 1 rfl (A0 rfl) rfl C4 A8 rfl) ?_
        refine A6 rfl rfl rfl rfl rfl ?_
        refine A1 rfl rfl rfl (F1 rfl Tryz.call23 rfl (AG8 c n (by omega)) (A7 (A0 rfl) (A7 (A0 rfl) D2))) ?_
        refine A6 rfl rfl rfl rfl rfl ?_
        refine A1 rfl rfl rfl (F6 rfl (A0 rfl) rfl) ?_
        refine A1 rfl rfl rfl (F6 rfl (A0 rfl) rfl) ?_
        refine F4 rfl rfl rfl rfl Tryz.zeroValue39 rfl ?_
        intro b32
        refine D3 0 rfl rfl rfl (A0 rfl) (A0 rfl) (D8 _) rfl F9 rfl ?_
        refine C2 rfl rfl rfl rfl rfl ?_
        refine A4 (A3 (A2 ?_))
        refine A1 rfl rfl rfl (D9 2 rfl (A0 rfl) rfl C4 A8 rfl) ?_
        refine A6 rfl rfl rfl rfl rfl ?_
        refine A1 rfl rfl rfl (F1 rfl Tryz.call17 rfl (AF0 c n (by omega)) (A7 (A0 rfl) (A7 (A0 rfl) D2))) ?_
        refine A6 rfl rfl rfl rfl rfl ?_
        refine A1 rfl rfl rfl (F6 rfl (A0 rfl) rfl) ?_
        refine A1 rfl rfl rfl (F6 rfl (A0 rfl) rfl) ?_
        refine F4 rfl rfl rfl rfl Tryz.zeroValue45 rfl ?_
        intro b34
        refine D3 0 rfl rfl rfl (A0 rfl) (A0 rfl) (D8 _) rfl D4 rfl ?_
        refine C2 rfl rfl rfl rfl rfl ?_
        refine A4 (A3 (A2 ?_))
        refine A1 rfl rfl rfl (D9 3 rfl (A0 rfl) rfl C4 A8 rfl) ?_
        refine A6 rfl rfl rfl rfl rfl ?_
        refine A1 rfl rfl rfl (F1 rfl Tryz.call24 rfl (AN4 c n (by omega)) (A7 (A0 rfl) (A7 (A0 rfl) D2))) ?_
        refine A6 rfl rfl rfl rfl rfl ?_
        refine A1 rfl rfl rfl (F6 rfl (A0 rfl) rfl) ?_
        refine A1 rfl rfl rfl (F6 rfl (A0 rfl) rfl) ?_
        refine F4 rfl rfl rfl rfl Tryz.zeroValue45 rfl ?_
        intro b36
        refine D3 0 rfl rfl rfl (A0 rfl) (A0 rfl) (D8 _) rfl D4 rfl ?_
        refine C2 rfl rfl rfl rfl rfl ?_
        refine A4 (A3 (A2 ?_))
        refine A6 rfl rfl rfl rfl rfl ?_
        refine I8 [] rfl rfl rfl rfl Tryz.call25 rfl (AB9 more hb1) (A7 (A0 rfl) D2) rfl ?_
        intro x212 ok212
        obtain ⟨⟨e, f⟩, hx212⟩ : ∃ z, x212 = z := ⟨_, rfl⟩
        subst hx212
        obtain ⟨hes, hfs⟩ := ok212
        dsimp only at hes hfs ⊢
        refine A6 rfl rfl rfl rfl rfl ?_
        refine A1 rfl rfl rfl (F6 rfl (A0 rfl) rfl) ?_
        refine A1 rfl rfl rfl (F6 rfl (A0 rfl) rfl) ?_
        refine F4 rfl rfl rfl rfl Tryz.zeroValue30 rfl ?_
        intro b38
        refine F4 rfl rfl rfl rfl Tryz.zeroValue30 rfl ?_
        intro b39
        refine D3 1 rfl rfl rfl (A0 rfl) (A0 rfl) (D8 _) rfl A8 rfl ?_
        refine D3 0 rfl rfl rfl (A0 rfl) (A0 rfl) (D8 _) rfl A8 rfl ?_
        refine A4 (A3 ?_)
        refine J5 (by kernel_rfl) (by kernel_rfl) rfl ?_
        refine B4 rfl rfl (C7 rfl (A0 rfl)) ?_
        refine B4 rfl rfl (C7 rfl (A0 rfl)) ?_
        refine B4 rfl rfl (AA0 rfl N7 (A0 rfl) (A0 rfl)) ?_
        refine B4 rfl rfl (C7 rfl (A0 rfl)) ?_
        refine D7 rfl (B9 rfl rfl rfl) (fun hc => D9 5 rfl (A0 rfl) rfl P7 F9 rfl) ?_
        refine D7 rfl (B9 rfl rfl rfl) (fun hc => D9 4 rfl (A0 rfl) rfl P7 F9 rfl) ?_
        refine D7 rfl (B9 rfl rfl rfl) (fun hc => w_aeql rfl I9 (by kernel_rfl) (by kernel_rfl) (A9 rfl hc) (A9 rfl hc) (R7 (by kernel_rfl) C5 rfl rfl (f7 O3) (R7 (by kernel_rfl) K3 rfl rfl (i5 N7) (R7 (by kernel_rfl) C5 rfl rfl (f7 O3) m6)))) ?_
        refine B4 rfl rfl (H8 rfl (A0 rfl) (G2 rfl)) ?_
        refine B4 rfl rfl (C7 rfl (A0 rfl)) ?_
        refine D7 rfl (B9 rfl rfl rfl) (fun hc => C7 rfl (A0 rfl)) ?_
        refine D7 rfl (B9 rfl rfl rfl) (fun hc => C7 rfl (A0 rfl)) ?_
        refine D7 rfl (B9 rfl rfl rfl) (fun hc => AA0 rfl N7 (A9 rfl hc) (A9 rfl hc)) ?_
        refine B4 rfl rfl (H8 rfl (A0 rfl) (G2 rfl)) ?_
        refine B4 rfl rfl (C7 rfl (A0 rfl)) ?_
        refine D7 rfl (B9 rfl rfl rfl) (fun hc => B3 1 rfl E7 rfl C0 (A0 rfl) rfl) ?_
        refine D7 rfl (B9 rfl rfl rfl) (fun hc => B2 3 rfl (A9 rfl hc) rfl C5 rfl) ?_
        refine D7 rfl (B9 rfl rfl rfl) (fun hc => B3 1 rfl E7 rfl C0 (A0 rfl) rfl) ?_
        refine D7 rfl (B9 rfl rfl rfl) (fun hc => B2 2 rfl (A9 rfl hc) rfl C5 rfl) ?_
        refine D7 rfl (B9 rfl rfl rfl) (fun hc => N3 rfl (A9 rfl hc) (A9 rfl hc)) ?_
        refine B4 rfl rfl (H8 rfl (A0 rfl) (G2 rfl)) ?_
        refine B4 rfl rfl (C7 rfl (A0 rfl)) ?_
        refine D7 rfl (B9 rfl rfl rfl) (fun hc => B3 2 rfl E7 rfl C0 (A0 rfl) rfl) ?_
        refine D7 rfl (B9 rfl rfl rfl) (fun hc => B2 3 rfl (A9 rfl hc) rfl C5 rfl) ?_
        refine D7 rfl (B9 rfl rfl rfl) (fun hc => B3 2 rfl E7 rfl C0 (A0 rfl) rfl) ?_
        refine D7 rfl (B9 rfl rfl rfl) (fun hc => B2 2 rfl (A9 rfl hc) rfl C5 rfl) ?_
        refine D7 rfl (B9 rfl rfl rfl) (fun hc => N3 rfl (A9 rfl hc) (A9 rfl hc)) ?_
        refine B4 rfl rfl (H8 rfl (A0 rfl) (G2 rfl)) ?_
        refine B4 rfl rfl (C7 rfl (A0 rfl)) ?_
        refine D7 rfl (B9 rfl rfl rfl) (fun hc => B3 3 rfl E7 rfl L8 (A0 rfl) rfl) ?_
        refine D7 rfl (B9 rfl rfl rfl) (fun hc => B2 3 rfl (A9 rfl hc) rfl O4 rfl) ?_
        refine D7 rfl (B9 rfl rfl rfl) (fun hc => B3 3 rfl E7 rfl L8 (A0 rfl) rfl) ?_
        refine D7 rfl (B9 rfl rfl rfl) (fun hc => B2 2 rfl (A9 rfl hc) rfl O4 rfl) ?_
        refine D7 rfl (B9 rfl rfl rfl) (fun hc => F1 rfl Tryz.call26 rfl (AJ3 _ _) (A7 (A9 rfl hc) (A7 (A9 rfl hc) D2))) ?_
        refine B4 rfl rfl (H8 rfl (A0 rfl) (G2 rfl)) ?_
        refine B4 rfl rfl (C7 rfl (A0 rfl)) ?_
        refine D7 rfl (B9 rfl rfl rfl) (fun hc => B3 4 rfl E7 rfl K6 (A0 rfl) rfl) ?_
        refine D7 rfl (B9 rfl rfl rfl) (fun hc => B2 3 rfl (A9 rfl hc) rfl M5 rfl) ?_
        refine D7 rfl (B9 rfl rfl rfl) (fun hc => B3 4 rfl E7 rfl K6 (A0 rfl) rfl) ?_
        refine D7 rfl (B9 rfl rfl rfl) (fun hc => B2 2 rfl (A9 rfl hc) rfl M5 rfl) ?_
        refine D7 rfl (B9 rfl rfl rfl) (fun hc => F1 rfl Tryz.call27 rfl (AF4 _ _) (A7 (A9 rfl hc) (A7 (A9 rfl hc) D2))) ?_
        refine B4 rfl rfl (H8 rfl (A0 rfl) (G2 rfl)) ?_
        refine B4 rfl rfl (C7 rfl (A0 rfl)) ?_
        refine D7 rfl (B9 rfl rfl rfl) (fun hc => D9 1 rfl (A0 rfl) rfl C4 A8 rfl) ?_
        refine D7 rfl (B9 rfl rfl rfl) (fun hc => D9 0 rfl (A0 rfl) rfl C4 A8 rfl) ?_
        refine D7 rfl (B9 rfl rfl rfl) (fun hc => F1 rfl Tryz.call28 rfl (AJ6 e f) (A7 (A9 rfl hc) (A7 (A9 rfl hc) D2))) ?_
        refine D7 rfl (B9 rfl rfl rfl) (fun hc => D9 1 rfl (A0 rfl) rfl C4 A8 rfl) ?_
        refine D7 rfl (B9 rfl rfl rfl) (fun hc => D9 0 rfl (A0 rfl) rfl C4 A8 rfl) ?_
        refine D7 rfl (B9 rfl rfl rfl) (fun hc => F1 rfl Tryz.call13 rfl (i0 e f (by omega)) (A7 (A9 rfl hc) (A7 (A9 rfl hc) D2))) ?_
        refine D7 rfl (B9 rfl rfl rfl) (fun hc => AA0 rfl N7 (A9 rfl hc) (A9 rfl hc)) ?_
        refine B4 rfl rfl (H8 rfl (A0 rfl) (G2 rfl)) ?_
        refine B4 rfl rfl (C3 rfl (A0 rfl)) ?_
        refine O5 ?_
        refine C8 ?_
        exact I2 rfl (D1 rfl (by first | rfl | exact congrArg AV.bool (by simp)))
   ·intro h72
    refine D5 (A3 (A2 ?_))
    refine A6 rfl rfl rfl rfl rfl ?_
    refine I8 [] rfl rfl rfl rfl Tryz.call18 rfl (AF5 more hb1) (A7 (A0 rfl) D2) rfl ?_
    intro x144 ok144
    obtain ⟨⟨s, r⟩, hx144⟩ : ∃ z, x144 = z := ⟨_, rfl⟩
    subst hx144
    obtain ⟨hss, hrr⟩ := ok144
    dsimp only at hss hrr ⊢
    have haz := Ab0 hss hrr
    refine A6 rfl rfl rfl rfl rfl ?_
    refine A1 rfl rfl rfl (F6 rfl (A0 rfl) rfl) ?_
    refine A1 rfl rfl rfl (F6 rfl (A0 rfl) rfl) ?_
    refine F4 rfl rfl rfl rfl Tryz.zeroValue30 rfl ?_
    intro b22
    refine F4 rfl rfl rfl rfl Tryz.zeroValue49 rfl ?_
    intro b23
    refine D3 1 rfl rfl rfl (A0 rfl) (A0 rfl) (D8 _) rfl A8 rfl ?_
    refine D3 0 rfl rfl rfl (A0 rfl) (A0 rfl) (D8 _) rfl E0 rfl ?_
    refine A4 (A3 (A2 ?_))
    refine A1 rfl rfl rfl (D9 1 rfl (A0 rfl) rfl C4 A8 rfl) ?_
    refine A1 rfl rfl rfl (D9 0 rfl (A0 rfl) rfl G5 E0 rfl) ?_
    refine A1 rfl rfl rfl (F1 rfl Tryz.call19 rfl (AN2 s r (by omega) (by omega)) (A7 (A0 rfl) (A7 (A0 rfl) D2))) ?_
    refine A6 rfl rfl rfl rfl rfl ?_
    refine A1 rfl rfl rfl (F6 rfl (A0 rfl) rfl) ?_
    refine A1 rfl rfl rfl (F6 rfl (A0 rfl) rfl) ?_
    refine F4 rfl rfl rfl rfl Tryz.zeroValue30 rfl ?_
    intro b24
    refine D3 0 rfl rfl rfl (A0 rfl) (A0 rfl) (D8 _) rfl A8 rfl ?_
    refine C2 rfl rfl rfl rfl rfl ?_
    refine A4 (A3 (A2 ?_))
    refine A1 rfl rfl rfl (D9 2 rfl (A0 rfl) rfl C4 A8 rfl) ?_
    refine A1 rfl rfl rfl (D9 1 rfl (A0 rfl) rfl G5 E0 rfl) ?_
    refine A1 rfl rfl rfl (F1 rfl Tryz.call20 rfl (AJ7 s r (by omega) (by omega)) (A7 (A0 rfl) (A7 (A0 rfl) D2))) ?_
    refine A6 rfl rfl rfl rfl rfl ?_
    refine A1 rfl rfl rfl (F6 rfl (A0 rfl) rfl) ?_
    refine A1 rfl rfl rfl (F6 rfl (A0 rfl) rfl) ?_
    refine F4 rfl rfl rfl rfl Tryz.zeroValue30 rfl ?_
    intro b26
    refine D3 0 rfl rfl rfl (A0 rfl) (A0 rfl) (D8 _) rfl A8 rfl ?_
    refine C2 rfl rfl rfl rfl rfl ?_
    refine A4 (A3 (A3 ?_))
    refine J5 (by kernel_rfl) (by kernel_rfl) rfl ?_
    refine B4 rfl rfl (C7 rfl (A0 rfl)) ?_
    refine B4 rfl rfl (C7 rfl (A0 rfl)) ?_
    refine B4 rfl rfl (AI0 rfl N7 (A0 rfl) (A0 rfl)) ?_
    refine B4 rfl rfl (C7 rfl (A0 rfl)) ?_
    refine D7 rfl (D6 rfl rfl rfl) (fun hc => D9 1 rfl (A0 rfl) rfl C4 A8 rfl) ?_
    refine D7 rfl (D6 rfl rfl rfl) (fun hc => D9 0 rfl (A0 rfl) rfl C4 A8 rfl) ?_
    refine D7 rfl (D6 rfl rfl rfl) (fun hc => F1 rfl Tryz.call13 rfl (i0 (applyRecR s r).1 (applyRecR s r).1 haz) (A7 (A9 rfl hc) (A7 (A9 rfl hc) D2))) ?_
    refine D7 rfl (D6 rfl rfl rfl) (fun hc => N1 rfl (A9 rfl hc)) ?_
    refine B4 rfl rfl (R4 rfl (A0 rfl) (G2 rfl)) ?_
    refine B4 rfl rfl (C7 rfl (A0 rfl)) ?_
    refine D7 rfl (D6 rfl rfl rfl) (fun hc => D9 3 rfl (A0 rfl) rfl C4 A8 rfl) ?_
    refine D7 rfl (D6 rfl rfl rfl) (fun hc => F1 rfl Tryz.call15 rfl (Y0 s (by omega)) (A7 (A9 rfl hc) D2)) ?_
    refine D7 rfl (D6 rfl rfl rfl) (fun hc => D9 3 rfl (A0 rfl) rfl C4 A8 rfl) ?_
    refine D7 rfl (D6 rfl rfl rfl) (fun hc => F1 rfl Tryz.call21 rfl (AF3 s (by omega)) (A7 (A9 rfl hc) D2)) ?_
    refine D7 rfl (D6 rfl rfl rfl) (fun hc => AI0 rfl N7 (A9 rfl hc) (A9 rfl hc)) ?_
    refine B4 rfl rfl (R4 rfl (A0 rfl) (G2 rfl)) ?_
    refine O5 ?_
    refine D0 (A0 rfl) ?_ ?_
    ·intro h174
     exfalso; simp at h174
    ·intro h174
     refine D5 (A3 (A3 (A2 ?_)))
     refine A6 rfl rfl rfl rfl rfl ?_
     refine A6 rfl rfl rfl rfl rfl ?_
     refine B7 rfl rfl (B9 rfl rfl rfl) (fun hc => D9 1 rfl (A0 rfl) rfl C4 A8 rfl) ?_
     refine B7 rfl rfl (B9 rfl rfl rfl) (fun hc => F1 rfl Tryz.call15 rfl (Y0 (applyRecR s r).1 haz) (A7 (A9 rfl hc) D2)) ?_
     refine B7 rfl rfl (B9 rfl rfl rfl) (fun hc => N1 rfl (A9 rfl hc)) ?_
     refine A1 rfl rfl rfl (H8 rfl (A0 rfl) (G2 rfl)) ?_
     refine A4 ?_
     refine D0 (A0 rfl) ?_ ?_
     ·intro h180
      exfalso; simp only [Bool.and_eq_true, Bool.not_eq_true'] at h180; rw [Aa9 h180.1] at h180; cases h180.2
     ·intro h180
      refine D5 (A3 (A2 ?_))
      refine A6 rfl rfl rfl rfl rfl ?_
      refine I8 [] rfl rfl rfl rfl Tryz.call22 rfl (AB8 more hb1) (A7 (A0 rfl) D2) rfl ?_
      intro x183 ok183
      obtain ⟨⟨c, n⟩, hx183⟩ : ∃ z, x183 = z := ⟨_, rfl⟩
      subst hx183
      have hcs : c.size ≤ 33045 := ok183
      dsimp only
      refine A6 rfl rfl rfl rfl rfl ?_
      refine A1 rfl rfl rfl (F6 rfl (A0 rfl) rfl) ?_
      refine A1 rfl rfl rfl (F6 rfl (A0 rfl) rfl) ?_
      refine F4 rfl rfl rfl rfl Tryz.zeroValue30 rfl ?_
      intro b28
      refine D3 0 rfl rfl rfl (A0 rfl) (A0 rfl) (D8 _) rfl A8 rfl ?_
      refine C2 rfl rfl rfl rfl rfl ?_
      refine A4 (A3 (A2 ?_))
      refine A1 rfl rfl rfl (D9 0 rfl (A0 rfl) rfl C4 A8 rfl) ?_
      refine A6 rfl rfl rfl rfl rfl ?_
      refine A1 rfl rfl rfl (F1 rfl Tryz.call16 rfl (w6 c n (by omega)) (A7 (A0 rfl) (A7 (A0 rfl) D2))) ?_
      refine A6 rfl rfl rfl rfl rfl ?_
      refine A1 rfl rfl rfl (F6 rfl (A0 rfl) rfl) ?_
      refine A1 rfl rfl rfl (F6 rfl (A0 rfl) rfl) ?_
      refine F4 rfl rfl rfl rfl Tryz.zeroValue39 rfl ?_
      intro b30
      refine D3 0 rfl rfl rfl (A0 rfl) (A0 rfl) (D8 _) rfl F9 rfl ?_
      refine C2 rfl rfl rfl rfl rfl ?_
      refine A4 (A3 (A2 ?_))
      refine A1 rfl rfl rfl (D9 1 rfl (A0 rfl) rfl C4 A8 rfl) ?_
      refine A6 rfl rfl rfl rfl rfl ?_
      refine A1 rfl rfl rfl (F1 rfl Tryz.call23 rfl (AG8 c n (by omega)) (A7 (A0 rfl) (A7 (A0 rfl) D2))) ?_
      refine A6 rfl rfl rfl rfl rfl ?_
      refine A1 rfl rfl rfl (F6 rfl (A0 rfl) rfl) ?_
      refine A1 rfl rfl rfl (F6 rfl (A0 rfl) rfl) ?_
      refine F4 rfl rfl rfl rfl Tryz.zeroValue39 rfl ?_
      intro b32
      refine D3 0 rfl rfl rfl (A0 rfl) (A0 rfl) (D8 _) rfl F9 rfl ?_
      refine C2 rfl rfl rfl rfl rfl ?_
      refine A4 (A3 (A2 ?_))
      refine A1 rfl rfl rfl (D9 2 rfl (A0 rfl) rfl C4 A8 rfl) ?_
      refine A6 rfl rfl rfl rfl rfl ?_
      refine A1 rfl rfl rfl (F1 rfl Tryz.call17 rfl (AF0 c n (by omega)) (A7 (A0 rfl) (A7 (A0 rfl) D2))) ?_
      refine A6 rfl rfl rfl rfl rfl ?_
      refine A1 rfl rfl rfl (F6 rfl (A0 rfl) rfl) ?_
      refine A1 rfl rfl rfl (F6 rfl (A0 rfl) rfl) ?_
      refine F4 rfl rfl rfl rfl Tryz.zeroValue45 rfl ?_
      intro b34
      refine D3 0 rfl rfl rfl (A0 rfl) (A0 rfl) (D8 _) rfl D4 rfl ?_
      refine C2 rfl rfl rfl rfl rfl ?_
      refine A4 (A3 (A2 ?_))
      refine A1 rfl rfl rfl (D9 3 rfl (A0 rfl) rfl C4 A8 rfl) ?_
      refine A6 rfl rfl rfl rfl rfl ?_
      refine A1 rfl rfl rfl (F1 rfl Tryz.call24 rfl (AN4 c n (by omega)) (A7 (A0 rfl) (A7 (A0 rfl) D2))) ?_
      refine A6 rfl rfl rfl rfl rfl ?_
      refine A1 rfl rfl rfl (F6 rfl (A0 rfl) rfl) ?_
      refine A1 rfl rfl rfl (F6 rfl (A0 rfl) rfl) ?_
      refine F4 rfl rfl rfl rfl Tryz.zeroValue45 rfl ?_
      intro b36
      refine D3 0 rfl rfl rfl (A0 rfl) (A0 rfl) (D8 _) rfl D4 rfl ?_
      refine C2 rfl rfl rfl rfl rfl ?_
      refine A4 (A3 (A2 ?_))
      refine A6 rfl rfl rfl rfl rfl ?_
      refine I8 [] rfl rfl rfl rfl Tryz.call25 rfl (AB9 more hb1) (A7 (A0 rfl) D2) rfl ?_
      intro x212 ok212
      obtain ⟨⟨e, f⟩, hx212⟩ : ∃ z, x212 = z := ⟨_, rfl⟩
      subst hx212
      obtain ⟨hes, hfs⟩ := ok212
      dsimp only at hes hfs ⊢
      refine A6 rfl rfl rfl rfl rfl ?_
      refine A1 rfl rfl rfl (F6 rfl (A0 rfl) rfl) ?_
      refine A1 rfl rfl rfl (F6 rfl (A0 rfl) rfl) ?_
      refine F4 rfl rfl rfl rfl Tryz.zeroValue30 rfl ?_
      intro b38
      refine F4 rfl rfl rfl rfl Tryz.zeroValue30 rfl ?_
      intro b39
      refine D3 1 rfl rfl rfl (A0 rfl) (A0 rfl) (D8 _) rfl A8 rfl ?_
      refine D3 0 rfl rfl rfl (A0 rfl) (A0 rfl) (D8 _) rfl A8 rfl ?_
      refine A4 (A3 ?_)
      refine J5 (by kernel_rfl) (by kernel_rfl) rfl ?_
      refine B4 rfl rfl (C7 rfl (A0 rfl)) ?_
      refine B4 rfl rfl (C7 rfl (A0 rfl)) ?_
      refine B4 rfl rfl (AA0 rfl N7 (A0 rfl) (A0 rfl)) ?_
      refine B4 rfl rfl (C7 rfl (A0 rfl)) ?_
      refine D7 rfl (B9 rfl rfl rfl) (fun hc => D9 5 rfl (A0 rfl) rfl P7 F9 rfl) ?_
      refine D7 rfl (B9 rfl rfl rfl) (fun hc => D9 4 rfl (A0 rfl) rfl P7 F9 rfl) ?_
      refine D7 rfl (B9 rfl rfl rfl) (fun hc => w_aeql rfl I9 (by kernel_rfl) (by kernel_rfl) (A9 rfl hc) (A9 rfl hc) (R7 (by kernel_rfl) C5 rfl rfl (f7 O3) (R7 (by kernel_rfl) K3 rfl rfl (i5 N7) (R7 (by kernel_rfl) C5 rfl rfl (f7 O3) m6)))) ?_
      refine B4 rfl rfl (H8 rfl (A0 rfl) (G2 rfl)) ?_
      refine B4 rfl rfl (C7 rfl (A0 rfl)) ?_
      refine D7 rfl (B9 rfl rfl rfl) (fun hc => C7 rfl (A0 rfl)) ?_
      refine D7 rfl (B9 rfl rfl rfl) (fun hc => C7 rfl (A0 rfl)) ?_
      refine D7 rfl (B9 rfl rfl rfl) (fun hc => AA0 rfl N7 (A9 rfl hc) (A9 rfl hc)) ?_
      refine B4 rfl rfl (H8 rfl (A0 rfl) (G2 rfl)) ?_
      refine B4 rfl rfl (C7 rfl (A0 rfl)) ?_
      refine D7 rfl (B9 rfl rfl rfl) (fun hc => B3 1 rfl E7 rfl C0 (A0 rfl) rfl) ?_
      refine D7 rfl (B9 rfl rfl rfl) (fun hc => B2 3 rfl (A9 rfl hc) rfl C5 rfl) ?_
      refine D7 rfl (B9 rfl rfl rfl) (fun hc => B3 1 rfl E7 rfl C0 (A0 rfl) rfl) ?_
      refine D7 rfl (B9 rfl rfl rfl) (fun hc => B2 2 rfl (A9 rfl hc) rfl C5 rfl) ?_
      refine D7 rfl (B9 rfl rfl rfl) (fun hc => N3 rfl (A9 rfl hc) (A9 rfl hc)) ?_
      refine B4 rfl rfl (H8 rfl (A0 rfl) (G2 rfl)) ?_
      refine B4 rfl rfl (C7 rfl (A0 rfl)) ?_
      refine D7 rfl (B9 rfl rfl rfl) (fun hc => B3 2 rfl E7 rfl C0 (A0 rfl) rfl) ?_
      refine D7 rfl (B9 rfl rfl rfl) (fun hc => B2 3 rfl (A9 rfl hc) rfl C5 rfl) ?_
      refine D7 rfl (B9 rfl rfl rfl) (fun hc => B3 2 rfl E7 rfl C0 (A0 rfl) rfl) ?_
      refine D7 rfl (B9 rfl rfl rfl) (fun hc => B2 2 rfl (A9 rfl hc) rfl C5 rfl) ?_
      refine D7 rfl (B9 rfl rfl rfl) (fun hc => N3 rfl (A9 rfl hc) (A9 rfl hc)) ?_
      refine B4 rfl rfl (H8 rfl (A0 rfl) (G2 rfl)) ?_
      refine B4 rfl rfl (C7 rfl (A0 rfl)) ?_
      refine D7 rfl (B9 rfl rfl rfl) (fun hc => B3 3 rfl E7 rfl L8 (A0 rfl) rfl) ?_
      refine D7 rfl (B9 rfl rfl rfl) (fun hc => B2 3 rfl (A9 rfl hc) rfl O4 rfl) ?_
      refine D7 rfl (B9 rfl rfl rfl) (fun hc => B3 3 rfl E7 rfl L8 (A0 rfl) rfl) ?_
      refine D7 rfl (B9 rfl rfl rfl) (fun hc => B2 2 rfl (A9 rfl hc) rfl O4 rfl) ?_
      refine D7 rfl (B9 rfl rfl rfl) (fun hc => F1 rfl Tryz.call26 rfl (AJ3 _ _) (A7 (A9 rfl hc) (A7 (A9 rfl hc) D2))) ?_
      refine B4 rfl rfl (H8 rfl (A0 rfl) (G2 rfl)) ?_
      refine B4 rfl rfl (C7 rfl (A0 rfl)) ?_
      refine D7 rfl (B9 rfl rfl rfl) (fun hc => B3 4 rfl E7 rfl K6 (A0 rfl) rfl) ?_
      refine D7 rfl (B9 rfl rfl rfl) (fun hc => B2 3 rfl (A9 rfl hc) rfl M5 rfl) ?_
      refine D7 rfl (B9 rfl rfl rfl) (fun hc => B3 4 rfl E7 rfl K6 (A0 rfl) rfl) ?_
      refine D7 rfl (B9 rfl rfl rfl) (fun hc => B2 2 rfl (A9 rfl hc) rfl M5 rfl) ?_
      refine D7 rfl (B9 rfl rfl rfl) (fun hc => F1 rfl Tryz.call27 rfl (AF4 _ _) (A7 (A9 rfl hc) (A7 (A9 rfl hc) D2))) ?_
      refine B4 rfl rfl (H8 rfl (A0 rfl) (G2 rfl)) ?_
      refine B4 rfl rfl (C7 rfl (A0 rfl)) ?_
      refine D7 rfl (B9 rfl rfl rfl) (fun hc => D9 1 rfl (A0 rfl) rfl C4 A8 rfl) ?_
      refine D7 rfl (B9 rfl rfl rfl) (fun hc => D9 0 rfl (A0 rfl) rfl C4 A8 rfl) ?_
      refine D7 rfl (B9 rfl rfl rfl) (fun hc => F1 rfl Tryz.call28 rfl (AJ6 e f) (A7 (A9 rfl hc) (A7 (A9 rfl hc) D2))) ?_
      refine D7 rfl (B9 rfl rfl rfl) (fun hc => D9 1 rfl (A0 rfl) rfl C4 A8 rfl) ?_
      refine D7 rfl (B9 rfl rfl rfl) (fun hc => D9 0 rfl (A0 rfl) rfl C4 A8 rfl) ?_
      refine D7 rfl (B9 rfl rfl rfl) (fun hc => F1 rfl Tryz.call13 rfl (i0 e f (by omega)) (A7 (A9 rfl hc) (A7 (A9 rfl hc) D2))) ?_
      refine D7 rfl (B9 rfl rfl rfl) (fun hc => AA0 rfl N7 (A9 rfl hc) (A9 rfl hc)) ?_
      refine B4 rfl rfl (H8 rfl (A0 rfl) (G2 rfl)) ?_
      refine B4 rfl rfl (C3 rfl (A0 rfl)) ?_
      refine O5 ?_
      refine C8 ?_
      exact I2 rfl (D1 rfl (by first | rfl | exact congrArg AV.bool (by simp)))
end
theorem AV1 : Opens Tryz.prog 22 (List Int) (fun l => [bytesI l]) (fun l => ∀ x ∈ l, (Lit.int .u8 x).wf = true) := As3 (sz := 1) T9 (by kernel_rfl) (BB4 Tryz.underlying5) (fun _ => rfl)
set_option maxRecDepth 100000 in
theorem fnState_lifted (os : Os) (started : os.Started) (H : Type) (enc : TypeId × Value → H) :
    ReturnsInHanded {} Tryz.checked os 3 .any (Rows.fnStateSpec.pre6 enc Tryz.prog Tryz.f3 Rows.fnStateRow.domain false) (Rows.fnStateSpec.post enc Tryz.prog Tryz.f3 false true false false) := by
  refine returnsInHanded_of_change (C := Tryz.checked) (by kernel_rfl) started (by kernel_rfl) Tryz.func3
    (ChangeSpec.witness6 (enc := enc) (C := Tryz.checked) false ⟨#[], #[.slice none 0 0, .slice none 0 0], []⟩ 8 (by kernel_rfl) (by kernel_rfl) (by kernel_rfl) (by kernel_rfl)) ?_
  intro W base args ds gs before hval0 hW hcnd _
  have hval : ∀ (j : Nat) t v, Tryz.f3.params[j]? = some t → args[j]? = some v → Value.okWide Tryz.prog W .any base t v := hval0
  have hW2 := hW
  obtain ⟨p, q, hA0, hV, rfl, hfz, hnd⟩ := hW
  have hA : DataW.TrodAll enc Tryz.prog W 0 (fun _ => true) true Tryz.f3.params.toList args.toList ds p := hA0
  rw [Tryz.params3] at hA hval
  obtain ⟨v0, vs0, d0, ds0, p0, q0, hargs, rfl, rfl, h0, r0⟩ := trodAll_cons hA
  obtain ⟨v1, vs1, d1, ds1, p1, q1, rfl, rfl, rfl, h1, r1⟩ := trodAll_cons r0
  obtain ⟨rfl, rfl, rfl⟩ := trodAll_nil r1
  obtain rfl : args = #[v0, v1] := by cases args; simp_all
  obtain ⟨rfl, rfl⟩ := trodVars_none hV
  have lt0 : ∀ x ∈ p0, x.block < W.heap.size := by obtain ⟨m, hm⟩ := h0; exact DataW.trod_lt m _ _ _ hm
  obtain ⟨a0, w0, g0⟩ := Au8 (AV1) (by obtain ⟨y1, y2, y3, rfl⟩ := okWide_slice T9 (hval 0 22 v0 rfl rfl); rfl) h0
  have lt1 : ∀ x ∈ p1, x.block < W.heap.size := by obtain ⟨m, hm⟩ := h1; exact DataW.trod_lt m _ _ _ hm
  obtain ⟨a1, w1, g1⟩ := Au8 (AV1) (by obtain ⟨y1, y2, y3, rfl⟩ := okWide_slice T9 (hval 1 22 v1 rfl rfl); rfl) h1
  have hcall := BB5 (Ap6 a0 w0 a1 w1) (DenV.cons g0 (DenV.cons g1 (DenV.nil _)))
  clear hA0 hval0
  refine Calls.mono hcall fun e W2 ⟨he, bel⟩ => ?_
  subst he
  exact ⟨_, rfl, _, _, _, [], _, [], hW2, trodAll_mk1 (shut_bool N7 _), (trodAll_cons_mk (Below.trod (by kernel_rfl : laidOutB Tryz.prog = true) (by kernel_rfl) (of_decide_eq_true (by kernel_rfl)) h0 bel lt0) (trodAll_cons_mk (Below.trod (by kernel_rfl : laidOutB Tryz.prog = true) (by kernel_rfl) (of_decide_eq_true (by kernel_rfl)) h1 bel lt1) trodAll_mk0)), rfl, bel.frame _, fun h => by cases h⟩
theorem As6 {a b : Bool} (h : a = true) (k : b = true) : (a && b) = true := by rw [h, k]; rfl
set_option maxRecDepth 100000 in
theorem Aj7 : joinedFacts Tryz.pinned.checked.prog 3 Tryz.f3 Rows.fnStateSpec Rows.fnStateRow = true := by
  unfold joinedFacts
  iterate 18 (rw [Bool.and_assoc])
  refine As6 ?_ ?_
  · as_aux_lemma => kernel_rfl
  · as_aux_lemma => kernel_rfl
theorem fnState_proved : Rows.FnStateSaid :=
  OpenClaim.holds_of_wide 3 Tryz.f3 rfl rfl rfl rfl rfl rfl rfl ⟨rfl, rfl, rfl, rfl, rfl⟩ rfl rfl rfl rfl rfl (by kernel_rfl) Tryz.func3 Aj7
    (of_decide_eq_true (by kernel_rfl)) (by unfold Func.isWrapper; first | (rw [if_pos (by decide +kernel)]; kernel_rfl) | (rw [if_neg (by decide +kernel)]; exact ⟨rfl, rfl⟩))
    (fun os started H enc _ => fnState_lifted os started H enc)
end Go.Proofs.YtnlhbdkcgaeimaaGreat
