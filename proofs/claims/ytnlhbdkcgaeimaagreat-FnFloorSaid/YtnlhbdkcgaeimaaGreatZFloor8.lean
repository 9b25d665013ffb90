/- FnFloor: for every drawn log, the settled time of a prefix is no later than that of the log, and what is seen up to it stays; the program answers what the reference answers. No condition. -/
import Derived.Test.YtnlhbdkcgaeimaaGreatZFloor7

set_option linter.unusedVariables false
set_option linter.unusedSimpArgs false
set_option maxRecDepth 100000
set_option maxHeartbeats 2000000
namespace Go.M
open Go.AV
theorem Ay5 {l : List TRec} (h : ∀ r ∈ l, goodRec r = true) : ∃ T, settledR (stFrom zState l, didFrom zState l, true).1 = (T, true) ∧ 0 ≤ T ∧ T ≤ 100000 ∧ T ≤ settled (stFrom zState l) := by
  have g := t7 t6 h
  refine ⟨settled (stFrom zState l), ?_, Ac8 g, ?_, Int.le_refl _⟩
  · unfold settledR; exact if_pos (Y7.2 g)
  · have h2 := (Z5.1 (Int.le_refl (settled (stFrom zState l)))).1
    have h3 := g.floor
    omega
theorem BC0 {T : Int} (h0 : 0 ≤ T) (h : T ≤ 100000) {i : Nat} (hi : i < 3) : ∃ x, ([[AV.int T], [AV.int (T - 1)], [AV.int (IntKind.i64.wrap (Int.tdiv T 2))]] : List (List AV))[i]? = some [AV.int x] ∧ x ≤ T := by
  have hd : Int.tdiv T 2 = T / 2 := Int.tdiv_eq_ediv_of_nonneg h0
  have hw : IntKind.i64.wrap (Int.tdiv T 2) = T / 2 := by rw [hd]; exact Aa8 (by omega)
  match i, hi with
  | 0, _ => exact ⟨T, rfl, Int.le_refl _⟩
  | 1, _ => exact ⟨T - 1, rfl, by omega⟩
  | 2, _ => exact ⟨_, rfl, by rw [hw]; omega⟩
theorem Aa6 {s : TState} (g : GS s) {x : Int} (h0 : 0 ≤ x) (h1 : x ≤ 100000) : cellsAtR s.Cells x = (cellsAt s.Cells x, true) := by
  unfold cellsAtR
  rw [if_neg (by rw [g.cells, show isTrue x = true by unfold isTrue within; simp only [Bool.and_eq_true, decide_eq_true_eq]; omega]; decide)]
end Go.M
namespace Go.Proofs.YtnlhbdkcgaeimaaGreat
open Go Go.AV Go.M
open Go.ChangeShapes Go.WideShapes Go.ChangeAt Go.RowKit
section
attribute [local irreducible] OpW OpA OpS AWP FSpec ESpec GSpec OpE RetOk RetOkG RvDen Le Ev GuardIs SrcIs SrcE Int.tdiv IntKind.wrap
theorem Ap6 (code : List Int) (hc : ∀ x ∈ code, (Lit.int .u8 x).wf = true) (more : List Int) (hm : ∀ x ∈ more, (Lit.int .u8 x).wf = true) : FSpec Tryz.prog 4 [bytesI code, bytesI more] (AV.bool true) := by
 refine E7 Tryz.func4 rfl Tryz.ntmps4 rfl ?_
 refine A3 (A2 ?_)
 refine A1 rfl rfl rfl (C3 rfl F4) ?_
 refine A4 (A3 (A3 (A2 ?_)))
 refine A5 rfl rfl rfl rfl rfl ?_
 refine A5 rfl rfl rfl rfl rfl ?_
 refine A1 rfl rfl rfl (E5 rfl Tryz.call8 rfl (big_spec _ _) (A9 (A0 rfl) (A9 (A0 rfl) D1))) ?_
 refine A4 ?_
 refine C7 (A0 rfl) ?_ ?_
 ·intro h40
  refine A3 (A2 ?_)
  refine A1 rfl rfl rfl (C3 rfl F4) ?_
  refine A4 ?_
  refine C8 ?_
  exact H9 rfl (C5 rfl (by first | rfl | exact congrArg AV.bool (by simp)))
 ·intro h40
  have hb0 : ByteL code := Am4 hc
  have hb1 : ByteL more := Am4 hm
  refine D2 (A3 (A2 ?_))
  refine A5 rfl rfl rfl rfl rfl ?_
  refine I2 [] rfl rfl rfl rfl Tryz.call9 rfl (Aa5 code hb0) (A9 (A0 rfl) D1) rfl ?_
  intro x42 ok42
  obtain ⟨l, hx42⟩ : ∃ z, x42 = z := ⟨_, rfl⟩
  subst hx42
  obtain ⟨hl12, hlsz⟩ := ok42
  have hsR := AM0 hl12 hlsz
  refine B9 rfl rfl rfl rfl rfl ?_
  refine A4 (A3 (A2 ?_))
  refine A5 rfl rfl rfl rfl rfl ?_
  refine A1 rfl rfl rfl (E5 rfl Tryz.call10 rfl (AL7 x42 (by omega) (fun r hr => Nat.le_trans (hlsz r hr) (by decide))) (A9 (A0 rfl) D1)) ?_
  refine A5 rfl rfl rfl rfl rfl ?_
  refine A1 rfl rfl rfl (F6 rfl (A0 rfl) rfl) ?_
  refine A1 rfl rfl rfl (F6 rfl (A0 rfl) rfl) ?_
  refine A1 rfl rfl rfl (F6 rfl (A0 rfl) rfl) ?_
  refine G0 rfl rfl rfl rfl Tryz.zeroValue30 rfl ?_
  intro b6
  refine D5 0 rfl rfl rfl (A0 rfl) (A0 rfl) (E2 _) rfl C1 rfl ?_
  refine B9 rfl rfl rfl rfl rfl ?_
  refine B9 rfl rfl rfl rfl rfl ?_
  refine A4 (A3 (A2 ?_))
  refine A5 rfl rfl rfl rfl rfl ?_
  refine A1 rfl rfl rfl (E5 rfl Tryz.call11 rfl (Ad0 x42 (by omega) (fun r hr => Nat.le_trans (hlsz r hr) (by decide))) (A9 (A0 rfl) D1)) ?_
  refine A5 rfl rfl rfl rfl rfl ?_
  refine A1 rfl rfl rfl (F6 rfl (A0 rfl) rfl) ?_
  refine A1 rfl rfl rfl (F6 rfl (A0 rfl) rfl) ?_
  refine A1 rfl rfl rfl (F6 rfl (A0 rfl) rfl) ?_
  refine G0 rfl rfl rfl rfl Tryz.zeroValue30 rfl ?_
  intro b9
  refine D5 0 rfl rfl rfl (A0 rfl) (A0 rfl) (E2 _) rfl C1 rfl ?_
  refine B9 rfl rfl rfl rfl rfl ?_
  refine B9 rfl rfl rfl rfl rfl ?_
  refine A4 (A3 (A3 (A2 ?_)))
  refine A5 rfl rfl rfl rfl rfl ?_
  refine A5 rfl rfl rfl rfl rfl ?_
  refine A1 rfl rfl rfl (w_bneq rfl T4 (A0 rfl) (A0 rfl)) ?_
  refine A5 rfl rfl rfl rfl rfl ?_
  refine B4 rfl rfl (D4 rfl rfl rfl) (fun hc => F2 1 rfl (A0 rfl) rfl D6 C1 rfl) ?_
  refine B4 rfl rfl (D4 rfl rfl rfl) (fun hc => F2 0 rfl (A0 rfl) rfl D6 C1 rfl) ?_
  refine B4 rfl rfl (D4 rfl rfl rfl) (fun hc => E5 rfl Tryz.call13 rfl (Aa3 _ _ (by omega)) (A9 (B0 rfl hc) (A9 (B0 rfl hc) D1))) ?_
  refine B4 rfl rfl (D4 rfl rfl rfl) (fun hc => M2 rfl (B0 rfl hc)) ?_
  refine A1 rfl rfl rfl (Q4 rfl (A0 rfl) (G4 rfl)) ?_
  refine A4 ?_
  refine C7 (A0 rfl) ?_ ?_
  ·intro h63
   exfalso; simp at h63
  ·intro h63
   refine D2 (A3 (A3 (A2 ?_)))
   refine A5 rfl rfl rfl rfl rfl ?_
   refine A4 ?_
   refine C7 (A0 rfl) ?_ ?_
   ·intro h64
    obtain ⟨he, hl6, hgl⟩ := As7 h64
    have hgs := t7 t6 hgl
    have hgS := BB9 hgl
    have hsS : (stFrom zState x42).size ≤ 40000 := by (rw [he] at hsR; exact hsR)
    rw [he]
    refine A3 (A2 ?_)
    refine A5 rfl rfl rfl rfl rfl ?_
    refine I2 [] rfl rfl rfl rfl Tryz.call14 rfl (Ap5 more hb1) (A9 (A0 rfl) D1) rfl ?_
    intro x66 ok66
    obtain ⟨k, hk, hkl⟩ : ∃ k : Nat, Int.tmod x66 (((x42.map TRec.cs).length : Int) + 1) = (k : Int) ∧ k ≤ x42.length := ⟨(Int.tmod x66 (((x42.map TRec.cs).length : Int) + 1)).toNat, by rw [Int.toNat_of_nonneg (Int.tmod_nonneg _ ok66.1)], by (have h1 := Int.tmod_nonneg (((x42.map TRec.cs).length : Int) + 1) ok66.1; have h2 := Int.tmod_lt_of_pos x66 (show (0 : Int) < ((x42.map TRec.cs).length : Int) + 1 by omega); simp only [A6] at h1 h2 ⊢; omega)⟩
    have hlt : (x42.take k).length ≤ 12 := by (rw [A7]; omega)
    have hts : ∀ r ∈ x42.take k, r.size ≤ 1002 := fun r hr => hlsz r (List.mem_of_mem_take hr)
    have hke := Ax5 hgl k
    have htg : ∀ r ∈ x42.take k, goodRec r = true := fun r hr => hgl r (List.mem_of_mem_take hr)
    have hep := As8 (show (x42.take k).length ≤ 60 by omega) htg
    have hsP := AM0 hlt hts
    obtain ⟨T, hT, hT0, hT1, hTp⟩ := Ay5 htg
    rw [← hep] at hT
    have hgP := t7 t6 htg
    refine A5 rfl rfl rfl rfl rfl ?_
    refine A1 rfl rfl rfl (G9 rfl I9 (A0 rfl)) ?_
    refine A1 rfl rfl rfl (G7 rfl (A0 rfl) C4 (by first | omega | (simp only [A6, A7, B2, B7, A8, szR] at *; omega))) ?_
    refine A1 rfl rfl rfl (Aj0 rfl (A0 rfl) (A0 rfl) (by omega)) ?_
    rw [hk]
    refine B9 rfl rfl rfl rfl rfl ?_
    refine A4 (A3 (A2 ?_))
    refine A5 rfl rfl rfl rfl rfl ?_
    refine A5 rfl rfl rfl rfl rfl ?_
    refine A1 rfl rfl rfl (y8 rfl I9 F7 (A0 rfl) (A0 rfl) (by first | omega | (simp only [A6, A7, B2, B7, A8, szR] at *; omega)) (by first | omega | (simp only [A6, A7, B2, B7, A8, szR] at *; omega))) ?_
    refine A1 rfl rfl rfl (E5 rfl Tryz.call10 rfl (AL7 (x42.take k) (by omega) (fun r hr => Nat.le_trans (hts r hr) (by decide))) (A9 (A0 rfl) D1)) ?_
    refine A5 rfl rfl rfl rfl rfl ?_
    refine A1 rfl rfl rfl (F6 rfl (A0 rfl) rfl) ?_
    refine A1 rfl rfl rfl (F6 rfl (A0 rfl) rfl) ?_
    refine A1 rfl rfl rfl (F6 rfl (A0 rfl) rfl) ?_
    refine G0 rfl rfl rfl rfl Tryz.zeroValue30 rfl ?_
    intro b13
    refine D5 0 rfl rfl rfl (A0 rfl) (A0 rfl) (E2 _) rfl C1 rfl ?_
    refine B9 rfl rfl rfl rfl rfl ?_
    refine B9 rfl rfl rfl rfl rfl ?_
    refine A4 (A3 (A2 ?_))
    refine A1 rfl rfl rfl (F2 0 rfl (A0 rfl) rfl D6 C1 rfl) ?_
    refine A1 rfl rfl rfl (E5 rfl Tryz.call29 rfl (o6 (stateOfR (x42.take k)).1 (by omega)) (A9 (A0 rfl) D1)) ?_
    refine A5 rfl rfl rfl rfl rfl ?_
    refine A1 rfl rfl rfl (F6 rfl (A0 rfl) rfl) ?_
    refine A1 rfl rfl rfl (F6 rfl (A0 rfl) rfl) ?_
    refine B9 rfl rfl rfl rfl rfl ?_
    refine B9 rfl rfl rfl rfl rfl ?_
    refine A4 (A3 (A2 ?_))
    refine A1 rfl rfl rfl (F2 2 rfl (A0 rfl) rfl D6 C1 rfl) ?_
    refine A1 rfl rfl rfl (E5 rfl Tryz.call29 rfl (o6 (stFrom zState x42) (by omega)) (A9 (A0 rfl) D1)) ?_
    refine A5 rfl rfl rfl rfl rfl ?_
    refine A1 rfl rfl rfl (F6 rfl (A0 rfl) rfl) ?_
    refine A1 rfl rfl rfl (F6 rfl (A0 rfl) rfl) ?_
    refine B9 rfl rfl rfl rfl rfl ?_
    refine B9 rfl rfl rfl rfl rfl ?_
    refine A4 (A3 (A3 (A2 ?_)))
    refine A5 rfl rfl rfl rfl rfl ?_
    refine A1 rfl rfl rfl (M2 rfl (A0 rfl)) ?_
    refine A5 rfl rfl rfl rfl rfl ?_
    refine B4 rfl rfl (D4 rfl rfl rfl) (fun hc => C6 rfl (A0 rfl)) ?_
    refine B4 rfl rfl (D4 rfl rfl rfl) (fun hc => M2 rfl (B0 rfl hc)) ?_
    refine A1 rfl rfl rfl (Q4 rfl (A0 rfl) (G4 rfl)) ?_
    refine A5 rfl rfl rfl rfl rfl ?_
    refine B4 rfl rfl (D4 rfl rfl rfl) (fun hc => C6 rfl (A0 rfl)) ?_
    refine B4 rfl rfl (D4 rfl rfl rfl) (fun hc => M2 rfl (B0 rfl hc)) ?_
    refine A1 rfl rfl rfl (Q4 rfl (A0 rfl) (G4 rfl)) ?_
    refine A5 rfl rfl rfl rfl rfl ?_
    refine B4 rfl rfl (D4 rfl rfl rfl) (fun hc => C6 rfl (A0 rfl)) ?_
    refine B4 rfl rfl (D4 rfl rfl rfl) (fun hc => C6 rfl (A0 rfl)) ?_
    refine B4 rfl rfl (D4 rfl rfl rfl) (fun hc => K6 rfl (B0 rfl hc) (B0 rfl hc)) ?_
    refine A1 rfl rfl rfl (Q4 rfl (A0 rfl) (G4 rfl)) ?_
    refine A4 ?_
    refine C7 (A0 rfl) ?_ ?_
    ·intro h103
     exfalso; rw [hT, hep] at h103; have h1 := hke.settled; unfold settledR at h103; rw [if_pos hgS] at h103; simp at h103; omega
    ·intro h103
     rw [hT]
     refine D2 (A3 (A2 ?_))
     refine A5 rfl rfl rfl rfl rfl ?_
     refine A5 rfl rfl rfl rfl rfl ?_
     refine A1 rfl rfl rfl (Q0 rfl (A0 rfl) C4 (by omega)) ?_
     refine A5 rfl rfl rfl rfl rfl ?_
     refine A1 rfl rfl rfl (w_quo rfl (A0 rfl) C4 (by first | omega | (simp only [A6, A7, B2, B7, A8, szR] at *; omega))) ?_
     refine A1 rfl rfl rfl (L9 rfl N8 C0 Tryz.zeroValue3 rfl rfl rfl rfl (E0 (A0 rfl) (K9 _ _) (E0 (A0 rfl) (K9 _ _) (E0 (A0 rfl) (K9 _ _) H6))) rfl rfl) ?_
     refine A1 rfl rfl rfl (G9 rfl N8 (A0 rfl)) ?_
     refine A1 rfl rfl rfl (C6 rfl C4) ?_
     refine A4 (D7 ?_)
     refine AWP.le (I8 [2, 1, 0] rfl) ?_
     refine J9 [(1, _), (6, _), (13, _), (109, _), (110, _)] _ (fun (i : Nat) => i ≤ 3) (fun (i : Nat) => [.box b6 30 (stFrom zState x42).cs, .box b9 30 (stFrom zState x42).cs, .box b13 30 (stateOfR (x42.take k)).1.cs]) (fun (i : Nat) => [(111, AV.int i)]) (fun (i : Nat) => 3 - i) (0) ?_ (S7 (by rfl) ⟨rfl, rfl, rfl, rfl, rfl, rfl, trivial⟩) ?_
     ·exact Nat.zero_le _
     intro i hinv
     refine A3 (A2 ?_)
     refine A1 rfl rfl rfl (K6 rfl (A0 rfl) (A0 rfl)) ?_
     refine A4 (A3 ?_)
     refine C7 (A0 rfl) ?_ ?_
     ·intro h112
      have k112 := of_decide_eq_true h112; try simp only [A6] at k112
      have hlt3 : i < 3 := by (have h9 : decide ((i : Int) < ((3 : Nat) : Int)) = true := h112; have h8 := of_decide_eq_true h9; omega)
      obtain ⟨x, hx, hxT⟩ := BC0 hT0 hT1 hlt3
      refine D2 (A3 (D7 (A3 (A2 ?_))))
      refine A1 rfl rfl rfl (I7 rfl N8 C0 (A0 rfl) (A0 rfl) hx (by first | omega | (simp only [A6, A7, B2, B7, A8, szR] at *; omega))) ?_
      refine A1 rfl rfl rfl (N6 rfl (A0 rfl) D0 rfl) ?_
      refine B9 rfl rfl rfl rfl rfl ?_
      refine A4 (A3 (A3 (A2 ?_)))
      refine A5 rfl rfl rfl rfl rfl ?_
      refine A1 rfl rfl rfl (K6 rfl (A0 rfl) C4) ?_
      refine A4 ?_
      refine C7 (A0 rfl) ?_ ?_
      ·intro h116
       have k116 := of_decide_eq_true h116; try simp only [A6] at k116
       refine H3 ?_
       refine A2 ?_
       refine A1 rfl rfl rfl (G7 rfl (A0 rfl) C4 (by first | omega | (simp only [A6, A7, B2, B7, A8, szR] at *; omega))) ?_
       refine A5 rfl rfl rfl rfl rfl ?_
       refine A4 ?_
       refine L4 i (i + 1) ?_ ?_ (Le.trans (I8 [0, 0, 0] rfl) (S7 (by rfl) ⟨rfl, rfl, rfl, rfl, rfl, rfl, trivial⟩))
       ·exact (by omega)
       ·omega
      ·intro h116
       have k116 := of_decide_eq_false h116; try simp only [A6] at k116
       refine D2 (A3 (A2 ?_))
       refine A1 rfl rfl rfl (B3 1 rfl B8 rfl M7 (A0 rfl) rfl) ?_
       refine A1 rfl rfl rfl (B1 2 rfl (A0 rfl) rfl P5 rfl) ?_
       refine A5 rfl rfl rfl rfl rfl ?_
       refine A1 rfl rfl rfl (E5 rfl Tryz.call30 rfl (AL8 (stateOfR (x42.take k)).1.Cells x (by have h9 : (stateOfR (x42.take k)).1.size = sizeL TCell.size (stateOfR (x42.take k)).1.Cells + sizeL THeld.size (stateOfR (x42.take k)).1.Held + (stateOfR (x42.take k)).1.Told.length := rfl; omega)) (A9 (A0 rfl) (A9 (A0 rfl) D1))) ?_
       refine A5 rfl rfl rfl rfl rfl ?_
       refine A1 rfl rfl rfl (F6 rfl (A0 rfl) rfl) ?_
       refine A1 rfl rfl rfl (F6 rfl (A0 rfl) rfl) ?_
       refine B9 rfl rfl rfl rfl rfl ?_
       refine B9 rfl rfl rfl rfl rfl ?_
       refine A4 (A3 (A2 ?_))
       refine A1 rfl rfl rfl (B3 1 rfl B8 rfl M7 (A0 rfl) rfl) ?_
       refine A1 rfl rfl rfl (B1 0 rfl (A0 rfl) rfl P5 rfl) ?_
       refine A5 rfl rfl rfl rfl rfl ?_
       refine A1 rfl rfl rfl (E5 rfl Tryz.call30 rfl (AL8 (stFrom zState x42).Cells x (by have h9 : (stFrom zState x42).size = sizeL TCell.size (stFrom zState x42).Cells + sizeL THeld.size (stFrom zState x42).Held + (stFrom zState x42).Told.length := rfl; omega)) (A9 (A0 rfl) (A9 (A0 rfl) D1))) ?_
       refine A5 rfl rfl rfl rfl rfl ?_
       refine A1 rfl rfl rfl (F6 rfl (A0 rfl) rfl) ?_
       refine A1 rfl rfl rfl (F6 rfl (A0 rfl) rfl) ?_
       refine B9 rfl rfl rfl rfl rfl ?_
       refine B9 rfl rfl rfl rfl rfl ?_
       refine A4 (A3 (A2 ?_))
       refine A5 rfl rfl rfl rfl rfl ?_
       refine A1 rfl rfl rfl (M2 rfl (A0 rfl)) ?_
       refine A5 rfl rfl rfl rfl rfl ?_
       refine B4 rfl rfl (D4 rfl rfl rfl) (fun hc => C6 rfl (A0 rfl)) ?_
       refine B4 rfl rfl (D4 rfl rfl rfl) (fun hc => M2 rfl (B0 rfl hc)) ?_
       refine A1 rfl rfl rfl (Q4 rfl (A0 rfl) (G4 rfl)) ?_
       refine A5 rfl rfl rfl rfl rfl ?_
       refine B4 rfl rfl (D4 rfl rfl rfl) (fun hc => C6 rfl (A0 rfl)) ?_
       refine B4 rfl rfl (D4 rfl rfl rfl) (fun hc => C6 rfl (A0 rfl)) ?_
       refine B4 rfl rfl (D4 rfl rfl rfl) (fun hc => E5 rfl Tryz.call27 rfl (AW7 _ _) (A9 (B0 rfl hc) (A9 (B0 rfl hc) D1))) ?_
       refine B4 rfl rfl (D4 rfl rfl rfl) (fun hc => M2 rfl (B0 rfl hc)) ?_
       refine A1 rfl rfl rfl (Q4 rfl (A0 rfl) (G4 rfl)) ?_
       refine A4 ?_
       refine C7 (A0 rfl) ?_ ?_
       ·intro h142
        exfalso; have hx0 : ¬ x < 0 := of_decide_eq_false h116; rw [hep] at h142; dsimp only at h142; rw [Aa6 hgP (by omega) (by omega), Aa6 hgs (by omega) (by omega), hke.cells x (by omega)] at h142; simp at h142
       ·intro h142
        refine D2 (A2 ?_)
        refine A1 rfl rfl rfl (G7 rfl (A0 rfl) C4 (by first | omega | (simp only [A6, A7, B2, B7, A8, szR] at *; omega))) ?_
        refine A5 rfl rfl rfl rfl rfl ?_
        refine A4 ?_
        refine L4 i (i + 1) ?_ ?_ (Le.trans (I8 [0, 0, 0] rfl) (S7 (by rfl) ⟨rfl, rfl, rfl, rfl, rfl, rfl, trivial⟩))
        ·exact (by omega)
        ·omega
     ·intro h112
      have k112 := of_decide_eq_false h112; try simp only [A6] at k112
      refine H3 ?_
      refine A3 (A2 ?_)
      refine A5 rfl rfl rfl rfl rfl ?_
      refine I2 [] rfl rfl rfl rfl Tryz.call31 rfl (AA9 more hb1) (A9 (A0 rfl) D1) rfl ?_
      intro x145 ok145
      have hs145 : x145.size ≤ 33045 := ok145
      refine G0 rfl rfl rfl rfl Tryz.zeroValue30 rfl ?_
      intro b26
      refine D5 0 rfl rfl rfl (A0 rfl) (A0 rfl) (E2 _) rfl C1 rfl ?_
      refine A4 (A3 (A2 ?_))
      refine A1 rfl rfl rfl (F2 0 rfl (A0 rfl) rfl D6 C1 rfl) ?_
      refine A1 rfl rfl rfl (E5 rfl Tryz.call29 rfl (o6 x145 (by omega)) (A9 (A0 rfl) D1)) ?_
      refine A5 rfl rfl rfl rfl rfl ?_
      refine A1 rfl rfl rfl (F6 rfl (A0 rfl) rfl) ?_
      refine A1 rfl rfl rfl (F6 rfl (A0 rfl) rfl) ?_
      refine B9 rfl rfl rfl rfl rfl ?_
      refine B9 rfl rfl rfl rfl rfl ?_
      refine A4 (A3 (A2 ?_))
      refine A1 rfl rfl rfl (F2 0 rfl (A0 rfl) rfl D6 C1 rfl) ?_
      refine A1 rfl rfl rfl (E5 rfl Tryz.call32 rfl (AF2 x145 (by omega)) (A9 (A0 rfl) D1)) ?_
      refine A5 rfl rfl rfl rfl rfl ?_
      refine A1 rfl rfl rfl (F6 rfl (A0 rfl) rfl) ?_
      refine A1 rfl rfl rfl (F6 rfl (A0 rfl) rfl) ?_
      refine B9 rfl rfl rfl rfl rfl ?_
      refine B9 rfl rfl rfl rfl rfl ?_
      refine A4 (A3 (A2 ?_))
      refine A5 rfl rfl rfl rfl rfl ?_
      refine I2 [] rfl rfl rfl rfl Tryz.call33 rfl (AB0 more hb1) (A9 (A0 rfl) D1) rfl ?_
      intro x158 ok158
      obtain ⟨⟨e, f, g⟩, hx158⟩ : ∃ z, x158 = z := ⟨_, rfl⟩
      subst hx158
      obtain ⟨hes, hfs⟩ := ok158
      dsimp only at hes hfs ⊢
      refine A5 rfl rfl rfl rfl rfl ?_
      refine A1 rfl rfl rfl (F6 rfl (A0 rfl) rfl) ?_
      refine A1 rfl rfl rfl (F6 rfl (A0 rfl) rfl) ?_
      refine A1 rfl rfl rfl (F6 rfl (A0 rfl) rfl) ?_
      refine G0 rfl rfl rfl rfl Tryz.zeroValue30 rfl ?_
      intro b31
      refine D5 0 rfl rfl rfl (A0 rfl) (A0 rfl) (E2 _) rfl C1 rfl ?_
      refine B9 rfl rfl rfl rfl rfl ?_
      refine B9 rfl rfl rfl rfl rfl ?_
      refine A4 (A3 (A2 ?_))
      refine A1 rfl rfl rfl (F2 0 rfl (A0 rfl) rfl D6 C1 rfl) ?_
      refine A5 rfl rfl rfl rfl rfl ?_
      refine A5 rfl rfl rfl rfl rfl ?_
      refine A1 rfl rfl rfl (E5 rfl Tryz.call34 rfl (AI2 e f g (by omega) (by omega)) (A9 (A0 rfl) (A9 (A0 rfl) (A9 (A0 rfl) D1)))) ?_
      refine A5 rfl rfl rfl rfl rfl ?_
      refine A1 rfl rfl rfl (F6 rfl (A0 rfl) rfl) ?_
      refine A1 rfl rfl rfl (F6 rfl (A0 rfl) rfl) ?_
      refine B9 rfl rfl rfl rfl rfl ?_
      refine B9 rfl rfl rfl rfl rfl ?_
      refine A4 (A3 (A2 ?_))
      refine A1 rfl rfl rfl (F2 0 rfl (A0 rfl) rfl D6 C1 rfl) ?_
      refine A5 rfl rfl rfl rfl rfl ?_
      refine A5 rfl rfl rfl rfl rfl ?_
      refine A1 rfl rfl rfl (E5 rfl Tryz.call35 rfl (AF3 e f g (by omega) (by omega)) (A9 (A0 rfl) (A9 (A0 rfl) (A9 (A0 rfl) D1)))) ?_
      refine A5 rfl rfl rfl rfl rfl ?_
      refine A1 rfl rfl rfl (F6 rfl (A0 rfl) rfl) ?_
      refine A1 rfl rfl rfl (F6 rfl (A0 rfl) rfl) ?_
      refine B9 rfl rfl rfl rfl rfl ?_
      refine B9 rfl rfl rfl rfl rfl ?_
      refine A4 (A3 (A2 ?_))
      refine A5 rfl rfl rfl rfl rfl ?_
      refine A5 rfl rfl rfl rfl rfl ?_
      refine A1 rfl rfl rfl (AM4 rfl T4 (A0 rfl) (A0 rfl)) ?_
      refine A5 rfl rfl rfl rfl rfl ?_
      refine B4 rfl rfl (C2 rfl rfl rfl) (fun hc => C6 rfl (A0 rfl)) ?_
      refine B4 rfl rfl (C2 rfl rfl rfl) (fun hc => C6 rfl (A0 rfl)) ?_
      refine B4 rfl rfl (C2 rfl rfl rfl) (fun hc => M9 rfl (B0 rfl hc) (B0 rfl hc)) ?_
      refine A1 rfl rfl rfl (I6 rfl (A0 rfl) (G4 rfl)) ?_
      refine A5 rfl rfl rfl rfl rfl ?_
      refine B4 rfl rfl (C2 rfl rfl rfl) (fun hc => C6 rfl (A0 rfl)) ?_
      refine B4 rfl rfl (C2 rfl rfl rfl) (fun hc => C6 rfl (A0 rfl)) ?_
      refine B4 rfl rfl (C2 rfl rfl rfl) (fun hc => AM4 rfl T4 (B0 rfl hc) (B0 rfl hc)) ?_
      refine A1 rfl rfl rfl (I6 rfl (A0 rfl) (G4 rfl)) ?_
      refine A5 rfl rfl rfl rfl rfl ?_
      refine B4 rfl rfl (C2 rfl rfl rfl) (fun hc => C6 rfl (A0 rfl)) ?_
      refine B4 rfl rfl (C2 rfl rfl rfl) (fun hc => C6 rfl (A0 rfl)) ?_
      refine B4 rfl rfl (C2 rfl rfl rfl) (fun hc => E5 rfl Tryz.call36 rfl (AL9 _ _) (A9 (B0 rfl hc) (A9 (B0 rfl hc) D1))) ?_
      refine A1 rfl rfl rfl (I6 rfl (A0 rfl) (G4 rfl)) ?_
      refine B9 rfl rfl rfl rfl rfl ?_
      refine A4 ?_
      refine C8 ?_
      exact H9 rfl (C5 rfl (by first | rfl | exact congrArg AV.bool (by simp)))
   ·intro h64
    refine D2 (A3 (A2 ?_))
    refine A5 rfl rfl rfl rfl rfl ?_
    refine I2 [] rfl rfl rfl rfl Tryz.call31 rfl (AA9 more hb1) (A9 (A0 rfl) D1) rfl ?_
    intro x145 ok145
    have hs145 : x145.size ≤ 33045 := ok145
    refine G0 rfl rfl rfl rfl Tryz.zeroValue30 rfl ?_
    intro b26
    refine D5 0 rfl rfl rfl (A0 rfl) (A0 rfl) (E2 _) rfl C1 rfl ?_
    refine A4 (A3 (A2 ?_))
    refine A1 rfl rfl rfl (F2 0 rfl (A0 rfl) rfl D6 C1 rfl) ?_
    refine A1 rfl rfl rfl (E5 rfl Tryz.call29 rfl (o6 x145 (by omega)) (A9 (A0 rfl) D1)) ?_
    refine A5 rfl rfl rfl rfl rfl ?_
    refine A1 rfl rfl rfl (F6 rfl (A0 rfl) rfl) ?_
    refine A1 rfl rfl rfl (F6 rfl (A0 rfl) rfl) ?_
    refine B9 rfl rfl rfl rfl rfl ?_
    refine B9 rfl rfl rfl rfl rfl ?_
    refine A4 (A3 (A2 ?_))
    refine A1 rfl rfl rfl (F2 0 rfl (A0 rfl) rfl D6 C1 rfl) ?_
    refine A1 rfl rfl rfl (E5 rfl Tryz.call32 rfl (AF2 x145 (by omega)) (A9 (A0 rfl) D1)) ?_
    refine A5 rfl rfl rfl rfl rfl ?_
    refine A1 rfl rfl rfl (F6 rfl (A0 rfl) rfl) ?_
    refine A1 rfl rfl rfl (F6 rfl (A0 rfl) rfl) ?_
    refine B9 rfl rfl rfl rfl rfl ?_
    refine B9 rfl rfl rfl rfl rfl ?_
    refine A4 (A3 (A2 ?_))
    refine A5 rfl rfl rfl rfl rfl ?_
    refine I2 [] rfl rfl rfl rfl Tryz.call33 rfl (AB0 more hb1) (A9 (A0 rfl) D1) rfl ?_
    intro x158 ok158
    obtain ⟨⟨e, f, g⟩, hx158⟩ : ∃ z, x158 = z := ⟨_, rfl⟩
    subst hx158
    obtain ⟨hes, hfs⟩ := ok158
    dsimp only at hes hfs ⊢
    refine A5 rfl rfl rfl rfl rfl ?_
    refine A1 rfl rfl rfl (F6 rfl (A0 rfl) rfl) ?_
    refine A1 rfl rfl rfl (F6 rfl (A0 rfl) rfl) ?_
    refine A1 rfl rfl rfl (F6 rfl (A0 rfl) rfl) ?_
    refine G0 rfl rfl rfl rfl Tryz.zeroValue30 rfl ?_
    intro b31
    refine D5 0 rfl rfl rfl (A0 rfl) (A0 rfl) (E2 _) rfl C1 rfl ?_
    refine B9 rfl rfl rfl rfl rfl ?_
    refine B9 rfl rfl rfl rfl rfl ?_
    refine A4 (A3 (A2 ?_))
    refine A1 rfl rfl rfl (F2 0 rfl (A0 rfl) rfl D6 C1 rfl) ?_
    refine A5 rfl rfl rfl rfl rfl ?_
    refine A5 rfl rfl rfl rfl rfl ?_
    refine A1 rfl rfl rfl (E5 rfl Tryz.call34 rfl (AI2 e f g (by omega) (by omega)) (A9 (A0 rfl) (A9 (A0 rfl) (A9 (A0 rfl) D1)))) ?_
    refine A5 rfl rfl rfl rfl rfl ?_
    refine A1 rfl rfl rfl (F6 rfl (A0 rfl) rfl) ?_
    refine A1 rfl rfl rfl (F6 rfl (A0 rfl) rfl) ?_
    refine B9 rfl rfl rfl rfl rfl ?_
    refine B9 rfl rfl rfl rfl rfl ?_
    refine A4 (A3 (A2 ?_))
    refine A1 rfl rfl rfl (F2 0 rfl (A0 rfl) rfl D6 C1 rfl) ?_
    refine A5 rfl rfl rfl rfl rfl ?_
    refine A5 rfl rfl rfl rfl rfl ?_
    refine A1 rfl rfl rfl (E5 rfl Tryz.call35 rfl (AF3 e f g (by omega) (by omega)) (A9 (A0 rfl) (A9 (A0 rfl) (A9 (A0 rfl) D1)))) ?_
    refine A5 rfl rfl rfl rfl rfl ?_
    refine A1 rfl rfl rfl (F6 rfl (A0 rfl) rfl) ?_
    refine A1 rfl rfl rfl (F6 rfl (A0 rfl) rfl) ?_
    refine B9 rfl rfl rfl rfl rfl ?_
    refine B9 rfl rfl rfl rfl rfl ?_
    refine A4 (A3 (A2 ?_))
    refine A5 rfl rfl rfl rfl rfl ?_
    refine A5 rfl rfl rfl rfl rfl ?_
    refine A1 rfl rfl rfl (AM4 rfl T4 (A0 rfl) (A0 rfl)) ?_
    refine A5 rfl rfl rfl rfl rfl ?_
    refine B4 rfl rfl (C2 rfl rfl rfl) (fun hc => C6 rfl (A0 rfl)) ?_
    refine B4 rfl rfl (C2 rfl rfl rfl) (fun hc => C6 rfl (A0 rfl)) ?_
    refine B4 rfl rfl (C2 rfl rfl rfl) (fun hc => M9 rfl (B0 rfl hc) (B0 rfl hc)) ?_
    refine A1 rfl rfl rfl (I6 rfl (A0 rfl) (G4 rfl)) ?_
    refine A5 rfl rfl rfl rfl rfl ?_
    refine B4 rfl rfl (C2 rfl rfl rfl) (fun hc => C6 rfl (A0 rfl)) ?_
    refine B4 rfl rfl (C2 rfl rfl rfl) (fun hc => C6 rfl (A0 rfl)) ?_
    refine B4 rfl rfl (C2 rfl rfl rfl) (fun hc => AM4 rfl T4 (B0 rfl hc) (B0 rfl hc)) ?_
    refine A1 rfl rfl rfl (I6 rfl (A0 rfl) (G4 rfl)) ?_
    refine A5 rfl rfl rfl rfl rfl ?_
    refine B4 rfl rfl (C2 rfl rfl rfl) (fun hc => C6 rfl (A0 rfl)) ?_
    refine B4 rfl rfl (C2 rfl rfl rfl) (fun hc => C6 rfl (A0 rfl)) ?_
    refine B4 rfl rfl (C2 rfl rfl rfl) (fun hc => E5 rfl Tryz.call36 rfl (AL9 _ _) (A9 (B0 rfl hc) (A9 (B0 rfl hc) D1))) ?_
    refine A1 rfl rfl rfl (I6 rfl (A0 rfl) (G4 rfl)) ?_
    refine B9 rfl rfl rfl rfl rfl ?_
    refine A4 ?_
    refine C8 ?_
    exact H9 rfl (C5 rfl (by first | rfl | exact congrArg AV.bool (by simp)))
end
theorem AU5 : Opens Tryz.prog 22 (List Int) (fun l => [bytesI l]) (fun l => ∀ x ∈ l, (Lit.int .u8 x).wf = true) := As6 (sz := 1) S6 (by kernel_rfl) (BB7 Tryz.underlying5) (fun _ => rfl)
set_option maxRecDepth 100000 in
theorem fnFloor_lifted (os : Os) (started : os.Started) (H : Type) (enc : TypeId × Value → H) :
    ReturnsInHanded {} Tryz.checked os 4 .any (Rows.fnFloorSpec.pre6 enc Tryz.prog Tryz.f4 Rows.fnFloorRow.domain false) (Rows.fnFloorSpec.post enc Tryz.prog Tryz.f4 false true false false) := by
  refine returnsInHanded_of_change (C := Tryz.checked) (by kernel_rfl) started (by kernel_rfl) Tryz.func4
    (ChangeSpec.witness6 (enc := enc) (C := Tryz.checked) false ⟨#[], #[.slice none 0 0, .slice none 0 0], []⟩ 8 (by kernel_rfl) (by kernel_rfl) (by kernel_rfl) (by kernel_rfl)) ?_
  intro W base args ds gs before hval0 hW hcnd _
  have hval : ∀ (j : Nat) t v, Tryz.f4.params[j]? = some t → args[j]? = some v → Value.okWide Tryz.prog W .any base t v := hval0
  have hW2 := hW
  obtain ⟨p, q, hA0, hV, rfl, hfz, hnd⟩ := hW
  have hA : DataW.TrodAll enc Tryz.prog W 0 (fun _ => true) true Tryz.f4.params.toList args.toList ds p := hA0
  rw [Tryz.params4] at hA hval
  obtain ⟨v0, vs0, d0, ds0, p0, q0, hargs, rfl, rfl, h0, r0⟩ := trodAll_cons hA
  obtain ⟨v1, vs1, d1, ds1, p1, q1, rfl, rfl, rfl, h1, r1⟩ := trodAll_cons r0
  obtain ⟨rfl, rfl, rfl⟩ := trodAll_nil r1
  obtain rfl : args = #[v0, v1] := by cases args; simp_all
  obtain ⟨rfl, rfl⟩ := trodVars_none hV
  have lt0 : ∀ x ∈ p0, x.block < W.heap.size := by obtain ⟨m, hm⟩ := h0; exact DataW.trod_lt m _ _ _ hm
  obtain ⟨a0, w0, g0⟩ := Av0 (AU5) (by obtain ⟨y1, y2, y3, rfl⟩ := okWide_slice S6 (hval 0 22 v0 rfl rfl); rfl) h0
  have lt1 : ∀ x ∈ p1, x.block < W.heap.size := by obtain ⟨m, hm⟩ := h1; exact DataW.trod_lt m _ _ _ hm
  obtain ⟨a1, w1, g1⟩ := Av0 (AU5) (by obtain ⟨y1, y2, y3, rfl⟩ := okWide_slice S6 (hval 1 22 v1 rfl rfl); rfl) h1
  have hcall := BB8 (Ap6 a0 w0 a1 w1) (DenV.cons g0 (DenV.cons g1 (DenV.nil _)))
  clear hA0 hval0
  refine Calls.mono hcall fun e W2 ⟨he, bel⟩ => ?_
  subst he
  exact ⟨_, rfl, _, _, _, [], _, [], hW2, trodAll_mk1 (shut_bool T4 _), (trodAll_cons_mk (Below.trod (by kernel_rfl : laidOutB Tryz.prog = true) (by kernel_rfl) (of_decide_eq_true (by kernel_rfl)) h0 bel lt0) (trodAll_cons_mk (Below.trod (by kernel_rfl : laidOutB Tryz.prog = true) (by kernel_rfl) (of_decide_eq_true (by kernel_rfl)) h1 bel lt1) trodAll_mk0)), rfl, bel.frame _, fun h => by cases h⟩
theorem As9 {a b : Bool} (h : a = true) (k : b = true) : (a && b) = true := by rw [h, k]; rfl
set_option maxRecDepth 100000 in
theorem Ai9 : joinedFacts Tryz.pinned.checked.prog 4 Tryz.f4 Rows.fnFloorSpec Rows.fnFloorRow = true := by
  unfold joinedFacts
  iterate 18 (rw [Bool.and_assoc])
  refine As9 ?_ ?_
  · as_aux_lemma => kernel_rfl
  · as_aux_lemma => kernel_rfl
theorem fnFloor_proved : Rows.FnFloorSaid :=
  OpenClaim.holds_of_wide 4 Tryz.f4 rfl rfl rfl rfl rfl rfl rfl ⟨rfl, rfl, rfl, rfl, rfl⟩ rfl rfl rfl rfl rfl (by kernel_rfl) Tryz.func4 Ai9
    (of_decide_eq_true (by kernel_rfl)) (by unfold Func.isWrapper; first | (rw [if_pos (by decide +kernel)]; kernel_rfl) | (rw [if_neg (by decide +kernel)]; exact ⟨rfl, rfl⟩))
    (fun os started H enc _ => fnFloor_lifted os started H enc)
end Go.Proofs.YtnlhbdkcgaeimaaGreat
