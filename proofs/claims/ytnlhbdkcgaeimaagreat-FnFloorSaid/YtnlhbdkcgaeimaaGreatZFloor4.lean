/- Texts of the claim, part 4. -/
import Derived.Test.YtnlhbdkcgaeimaaGreatRows
import Derived.Sort.OwnSortedInts
import Derived.Sort.EncStr
import Derived.Shelf.GgSortFunc.RowK
import Derived.Shelf.Sort.Plain
import Derived.Shelf.Slices.In.SortNone
import Derived.Test.YtnlhbdkcgaeimaaGreatProg
import Derived.Test.YtnlhbdkcgaeimaaGreatZFloor3

set_option linter.unusedVariables false
set_option linter.unusedSimpArgs false
set_option maxRecDepth 100000
namespace Go.Proofs.YtnlhbdkcgaeimaaGreat
open Go Go.AV Go.M
attribute [local irreducible] OpW OpA OpS AWP FSpec ESpec GSpec OpE RetOk RetOkG RvDen Le Ev GuardIs SrcIs Int.tmod IntKind.wrap bandI
theorem AT5 (b : Nat) (code : List Int) (hcode : ByteL code) (c : TCur) (hp : c.p ≤ 8000000) : GSpec Tryz.prog 197 [AV.ptr b 0] [.box b 127 (curC code c)] (fun x : TCur × Int => x.1.p ≤ c.p + 1 ∧ 0 ≤ x.2 ∧ x.2 ≤ 255) (fun x => [.box b 127 (curC code x.1)]) (fun x => AV.int x.2) := by
 have hcb := hcode
 refine H5 Tryz.func197 rfl Tryz.ntmps197 rfl ?_
 refine A3 (A2 ?_)
 refine A1 rfl rfl rfl (C3 rfl C4) ?_
 refine A4 (A3 (A2 ?_))
 try rw [AB8 hzb]
 refine A1 rfl rfl rfl (C3 rfl C4) ?_
 refine A4 (A3 (A3 ?_))
 refine K3 (by kernel_rfl) (by kernel_rfl) rfl ?_
 refine B5 rfl rfl (C6 rfl (A0 rfl)) ?_
 refine B5 rfl rfl (Y8 rfl (A0 rfl)) ?_
 refine B5 rfl rfl (B3 1 rfl M5 rfl C0 (A0 rfl) rfl) ?_
 refine B5 rfl rfl (B1 0 rfl (A0 rfl) rfl D0 rfl) ?_
 refine B5 rfl rfl (C6 rfl (A0 rfl)) ?_
 refine B5 rfl rfl (Y8 rfl (A0 rfl)) ?_
 refine B5 rfl rfl (B3 0 rfl M5 rfl Tryz.sizeOf22 (A0 rfl) rfl) ?_
 refine B5 rfl rfl (B1 0 rfl (A0 rfl) rfl Tryz.isAgg22 rfl) ?_
 refine B5 rfl rfl (G9 rfl S6 (A0 rfl)) ?_
 refine B5 rfl rfl (K6 rfl (A0 rfl) (A0 rfl)) ?_
 refine O1 ?_
 refine C7 (A0 rfl) ?_ ?_
 ·intro h13
  have k13 := of_decide_eq_true h13; try simp only [A6] at k13
  obtain ⟨z, hz⟩ := get_some (show c.p < code.length by omega)
  have hzb := hcb z (G6 hz)
  refine K3 (by kernel_rfl) (by kernel_rfl) rfl ?_
  refine B5 rfl rfl (C6 rfl (A0 rfl)) ?_
  refine B5 rfl rfl (Y8 rfl (A0 rfl)) ?_
  refine B5 rfl rfl (B3 0 rfl M5 rfl Tryz.sizeOf22 (A0 rfl) rfl) ?_
  refine B5 rfl rfl (B1 0 rfl (A0 rfl) rfl Tryz.isAgg22 rfl) ?_
  refine B5 rfl rfl (C6 rfl (A0 rfl)) ?_
  refine B5 rfl rfl (Y8 rfl (A0 rfl)) ?_
  refine B5 rfl rfl (B3 1 rfl M5 rfl C0 (A0 rfl) rfl) ?_
  refine B5 rfl rfl (B1 0 rfl (A0 rfl) rfl D0 rfl) ?_
  refine B5 rfl rfl (I7 rfl S6 Tryz.sizeOf5 (A0 rfl) (A0 rfl) hz rfl) ?_
  refine B5 rfl rfl (N6 rfl (A0 rfl) Tryz.isAgg5 rfl) ?_
  refine B5 rfl rfl (e7 rfl (by kernel_rfl) Q6 (A0 rfl)) ?_
  try rw [AB8 hzb]
  refine B5 rfl rfl (C3 rfl (A0 rfl)) ?_
  refine O1 ?_
  refine A3 (A2 ?_)
  refine A5 rfl rfl rfl rfl rfl ?_
  refine A1 rfl rfl rfl (Y8 rfl (A0 rfl)) ?_
  refine A1 rfl rfl rfl (B3 1 rfl M5 rfl C0 (A0 rfl) rfl) ?_
  refine A1 rfl rfl rfl (B1 0 rfl (A0 rfl) rfl D0 rfl) ?_
  refine A1 rfl rfl rfl (G7 rfl (A0 rfl) C4 (by first | omega | (simp only [A6, A7, B2, B7, A8, szR] at *; omega))) ?_
  refine A1 rfl rfl rfl (Y8 rfl (A0 rfl)) ?_
  refine A1 rfl rfl rfl (B3 1 rfl M5 rfl C0 (A0 rfl) rfl) ?_
  refine I4 0 rfl rfl rfl (A0 rfl) (A0 rfl) (K9 _ _) rfl C0 rfl ?_
  refine A4 (A3 (A2 ?_))
  refine A5 rfl rfl rfl rfl rfl ?_
  refine A5 rfl rfl rfl rfl rfl ?_
  refine A1 rfl rfl rfl (Y8 rfl (A0 rfl)) ?_
  refine A1 rfl rfl rfl (B3 2 rfl M5 rfl W6 (A0 rfl) rfl) ?_
  refine A1 rfl rfl rfl (B1 0 rfl (A0 rfl) rfl Tryz.isAgg125 rfl) ?_
  refine A1 rfl rfl rfl (w_mul rfl (A0 rfl) C4) ?_
  refine A5 rfl rfl rfl rfl rfl ?_
  refine A1 rfl rfl rfl (e7 rfl (by kernel_rfl) Tryz.underlying125 (A0 rfl)) ?_
  refine A1 rfl rfl rfl (AX3 rfl (A0 rfl) (A0 rfl)) ?_
  refine A1 rfl rfl rfl (AX3 rfl (A0 rfl) C4) ?_
  refine A1 rfl rfl rfl (Y8 rfl (A0 rfl)) ?_
  refine A1 rfl rfl rfl (B3 2 rfl M5 rfl W6 (A0 rfl) rfl) ?_
  refine I4 0 rfl rfl rfl (A0 rfl) (A0 rfl) (K9 _ _) rfl W6 rfl ?_
  refine A4 (A3 (A3 ?_))
  refine K3 (by kernel_rfl) (by kernel_rfl) rfl ?_
  refine B5 rfl rfl (C6 rfl (A0 rfl)) ?_
  refine B5 rfl rfl (Y8 rfl (A0 rfl)) ?_
  refine B5 rfl rfl (B3 1 rfl M5 rfl C0 (A0 rfl) rfl) ?_
  refine B5 rfl rfl (B1 0 rfl (A0 rfl) rfl D0 rfl) ?_
  refine B5 rfl rfl (C6 rfl (A0 rfl)) ?_
  refine B5 rfl rfl (Y8 rfl (A0 rfl)) ?_
  refine B5 rfl rfl (B3 0 rfl M5 rfl Tryz.sizeOf22 (A0 rfl) rfl) ?_
  refine B5 rfl rfl (B1 0 rfl (A0 rfl) rfl Tryz.isAgg22 rfl) ?_
  refine B5 rfl rfl (G9 rfl S6 (A0 rfl)) ?_
  refine B5 rfl rfl (U5 rfl (A0 rfl) (A0 rfl)) ?_
  refine O1 ?_
  refine C7 (A0 rfl) ?_ ?_
  ·intro h53
   have k53 := of_decide_eq_true h53; try simp only [A6] at k53
   refine A3 (A2 ?_)
   refine A5 rfl rfl rfl rfl rfl ?_
   refine B9 rfl rfl rfl rfl rfl ?_
   refine A4 ?_
   refine C8 ?_
   (refine K1 [0] ((⟨c.p + 1, _⟩, _)) ?_ rfl (by first | (dsimp only; rfl) | rfl) (N1 rfl (C5 rfl (by first | rfl | (refine congrArg AV.bool ?_; simp_all; done)))); first | exact ⟨Nat.le_refl _, hzb⟩ | exact ⟨Nat.le_refl _, Int.le_refl 0, (show (0 : Int) ≤ 255 by decide)⟩ | (rw [AB8 (j6 _)]; exact ⟨Nat.le_refl _, j6 _⟩))
  ·intro h53
   have k53 := of_decide_eq_false h53; try simp only [A6] at k53
   refine D2 (A3 (A2 ?_))
   refine A5 rfl rfl rfl rfl rfl ?_
   refine A1 rfl rfl rfl (Y8 rfl (A0 rfl)) ?_
   refine A1 rfl rfl rfl (B3 2 rfl M5 rfl W6 (A0 rfl) rfl) ?_
   refine A1 rfl rfl rfl (B1 0 rfl (A0 rfl) rfl Tryz.isAgg125 rfl) ?_
   refine A1 rfl rfl rfl (AQ4 rfl (A0 rfl) C4 (by decide) (by decide)) ?_
   refine A1 rfl rfl rfl (w_band rfl (A0 rfl) C4) ?_
   refine A1 rfl rfl rfl (e7 rfl (by kernel_rfl) Q6 (A0 rfl)) ?_
   refine B9 rfl rfl rfl rfl rfl ?_
   refine A4 ?_
   refine C8 ?_
   (refine K1 [0] ((⟨c.p + 1, _⟩, _)) ?_ rfl (by first | (dsimp only; rfl) | rfl) (N1 rfl (C5 rfl (by first | rfl | (refine congrArg AV.bool ?_; simp_all; done)))); first | exact ⟨Nat.le_refl _, hzb⟩ | exact ⟨Nat.le_refl _, Int.le_refl 0, (show (0 : Int) ≤ 255 by decide)⟩ | (rw [AB8 (j6 _)]; exact ⟨Nat.le_refl _, j6 _⟩))
 ·intro h13
  have k13 := of_decide_eq_false h13; try simp only [A6] at k13
  refine D2 (A3 (A2 ?_))
  refine A5 rfl rfl rfl rfl rfl ?_
  refine A1 rfl rfl rfl (Y8 rfl (A0 rfl)) ?_
  refine A1 rfl rfl rfl (B3 1 rfl M5 rfl C0 (A0 rfl) rfl) ?_
  refine A1 rfl rfl rfl (B1 0 rfl (A0 rfl) rfl D0 rfl) ?_
  refine A1 rfl rfl rfl (G7 rfl (A0 rfl) C4 (by first | omega | (simp only [A6, A7, B2, B7, A8, szR] at *; omega))) ?_
  refine A1 rfl rfl rfl (Y8 rfl (A0 rfl)) ?_
  refine A1 rfl rfl rfl (B3 1 rfl M5 rfl C0 (A0 rfl) rfl) ?_
  refine I4 0 rfl rfl rfl (A0 rfl) (A0 rfl) (K9 _ _) rfl C0 rfl ?_
  refine A4 (A3 (A2 ?_))
  refine A5 rfl rfl rfl rfl rfl ?_
  refine A5 rfl rfl rfl rfl rfl ?_
  refine A1 rfl rfl rfl (Y8 rfl (A0 rfl)) ?_
  refine A1 rfl rfl rfl (B3 2 rfl M5 rfl W6 (A0 rfl) rfl) ?_
  refine A1 rfl rfl rfl (B1 0 rfl (A0 rfl) rfl Tryz.isAgg125 rfl) ?_
  refine A1 rfl rfl rfl (w_mul rfl (A0 rfl) C4) ?_
  refine A5 rfl rfl rfl rfl rfl ?_
  refine A1 rfl rfl rfl (e7 rfl (by kernel_rfl) Tryz.underlying125 (A0 rfl)) ?_
  refine A1 rfl rfl rfl (AX3 rfl (A0 rfl) (A0 rfl)) ?_
  refine A1 rfl rfl rfl (AX3 rfl (A0 rfl) C4) ?_
  refine A1 rfl rfl rfl (Y8 rfl (A0 rfl)) ?_
  refine A1 rfl rfl rfl (B3 2 rfl M5 rfl W6 (A0 rfl) rfl) ?_
  refine I4 0 rfl rfl rfl (A0 rfl) (A0 rfl) (K9 _ _) rfl W6 rfl ?_
  refine A4 (A3 (A3 ?_))
  refine K3 (by kernel_rfl) (by kernel_rfl) rfl ?_
  refine B5 rfl rfl (C6 rfl (A0 rfl)) ?_
  refine B5 rfl rfl (Y8 rfl (A0 rfl)) ?_
  refine B5 rfl rfl (B3 1 rfl M5 rfl C0 (A0 rfl) rfl) ?_
  refine B5 rfl rfl (B1 0 rfl (A0 rfl) rfl D0 rfl) ?_
  refine B5 rfl rfl (C6 rfl (A0 rfl)) ?_
  refine B5 rfl rfl (Y8 rfl (A0 rfl)) ?_
  refine B5 rfl rfl (B3 0 rfl M5 rfl Tryz.sizeOf22 (A0 rfl) rfl) ?_
  refine B5 rfl rfl (B1 0 rfl (A0 rfl) rfl Tryz.isAgg22 rfl) ?_
  refine B5 rfl rfl (G9 rfl S6 (A0 rfl)) ?_
  refine B5 rfl rfl (U5 rfl (A0 rfl) (A0 rfl)) ?_
  refine O1 ?_
  refine C7 (A0 rfl) ?_ ?_
  ·intro h53
   have k53 := of_decide_eq_true h53; try simp only [A6] at k53
   refine A3 (A2 ?_)
   refine A5 rfl rfl rfl rfl rfl ?_
   refine B9 rfl rfl rfl rfl rfl ?_
   refine A4 ?_
   refine C8 ?_
   (refine K1 [0] ((⟨c.p + 1, _⟩, _)) ?_ rfl (by first | (dsimp only; rfl) | rfl) (N1 rfl (C5 rfl (by first | rfl | (refine congrArg AV.bool ?_; simp_all; done)))); first | exact ⟨Nat.le_refl _, hzb⟩ | exact ⟨Nat.le_refl _, Int.le_refl 0, (show (0 : Int) ≤ 255 by decide)⟩ | (rw [AB8 (j6 _)]; exact ⟨Nat.le_refl _, j6 _⟩))
  ·intro h53
   have k53 := of_decide_eq_false h53; try simp only [A6] at k53
   refine D2 (A3 (A2 ?_))
   refine A5 rfl rfl rfl rfl rfl ?_
   refine A1 rfl rfl rfl (Y8 rfl (A0 rfl)) ?_
   refine A1 rfl rfl rfl (B3 2 rfl M5 rfl W6 (A0 rfl) rfl) ?_
   refine A1 rfl rfl rfl (B1 0 rfl (A0 rfl) rfl Tryz.isAgg125 rfl) ?_
   refine A1 rfl rfl rfl (AQ4 rfl (A0 rfl) C4 (by decide) (by decide)) ?_
   refine A1 rfl rfl rfl (w_band rfl (A0 rfl) C4) ?_
   refine A1 rfl rfl rfl (e7 rfl (by kernel_rfl) Q6 (A0 rfl)) ?_
   refine B9 rfl rfl rfl rfl rfl ?_
   refine A4 ?_
   refine C8 ?_
   (refine K1 [0] ((⟨c.p + 1, _⟩, _)) ?_ rfl (by first | (dsimp only; rfl) | rfl) (N1 rfl (C5 rfl (by first | rfl | (refine congrArg AV.bool ?_; simp_all; done)))); first | exact ⟨Nat.le_refl _, hzb⟩ | exact ⟨Nat.le_refl _, Int.le_refl 0, (show (0 : Int) ≤ 255 by decide)⟩ | (rw [AB8 (j6 _)]; exact ⟨Nat.le_refl _, j6 _⟩))
theorem T0 (b : Nat) (code : List Int) (hcode : ByteL code) (c : TCur) (n : Int) (hn : n ≤ 1000000) (hp : c.p ≤ 7000000) : GSpec Tryz.prog 100 [AV.ptr b 0, AV.int n] [.box b 127 (curC code c)] (fun x : TCur × Int => x.1.p ≤ c.p + 2 ∧ 0 ≤ x.2 ∧ (x.2 < n ∨ x.2 = 0)) (fun x => [.box b 127 (curC code x.1)]) (fun x => AV.int x.2) := by
 refine H5 Tryz.func100 rfl Tryz.ntmps100 rfl ?_
 refine A3 (A2 ?_)
 refine A1 rfl rfl rfl (C3 rfl C4) ?_
 refine A4 (A3 (A3 (A2 ?_)))
 refine A5 rfl rfl rfl rfl rfl ?_
 refine A1 rfl rfl rfl (U5 rfl (A0 rfl) C4) ?_
 refine A4 ?_
 refine C7 (A0 rfl) ?_ ?_
 ·intro h7
  have k7 := of_decide_eq_true h7; try simp only [A6] at k7
  refine A3 (A2 ?_)
  refine A1 rfl rfl rfl (C3 rfl C4) ?_
  refine A4 ?_
  refine C8 ?_
  (refine K1 [0] ((_, _)) ?_ rfl (by first | (dsimp only; rfl) | rfl) (N1 rfl (C5 rfl (by first | rfl | (refine congrArg AV.bool ?_; simp_all; done)))); (dsimp only; first | omega | exact ⟨by omega, Int.tmod_nonneg _ (by omega), .inl (Int.tmod_lt_of_pos _ (by omega))⟩))
 ·intro h7
  have k7 := of_decide_eq_false h7; try simp only [A6] at k7
  refine D2 (A3 (A2 ?_))
  refine A5 rfl rfl rfl rfl rfl ?_
  refine I2 [0] rfl rfl rfl rfl Tryz.call197 rfl (AT5 _ _ hcode _ (by omega)) (A9 (A0 rfl) D1) rfl ?_
  intro x9 ok9
  refine B9 rfl rfl rfl rfl rfl ?_
  refine A4 (A3 (A3 (A2 ?_)))
  refine A5 rfl rfl rfl rfl rfl ?_
  refine A1 rfl rfl rfl (P8 rfl (A0 rfl) C4) ?_
  refine A4 ?_
  refine C7 (A0 rfl) ?_ ?_
  ·intro h11
   have k11 := of_decide_eq_true h11; try simp only [A6] at k11
   refine A2 ?_
   refine A5 rfl rfl rfl rfl rfl ?_
   refine A1 rfl rfl rfl (w_muli rfl (A0 rfl) C4 (by first | omega | (simp only [A6, A7, B2, B7, A8, szR] at *; omega))) ?_
   refine A5 rfl rfl rfl rfl rfl ?_
   refine I2 [0] rfl rfl rfl rfl Tryz.call197 rfl (AT5 _ _ hcode _ (by omega)) (A9 (A0 rfl) D1) rfl ?_
   intro x15 ok15
   refine A1 rfl rfl rfl (G7 rfl (A0 rfl) (A0 rfl) (by first | omega | (simp only [A6, A7, B2, B7, A8, szR] at *; omega))) ?_
   refine B9 rfl rfl rfl rfl rfl ?_
   refine A4 (A3 (A2 ?_))
   refine A5 rfl rfl rfl rfl rfl ?_
   refine A5 rfl rfl rfl rfl rfl ?_
   refine A1 rfl rfl rfl (Aj0 rfl (A0 rfl) (A0 rfl) (by omega)) ?_
   refine B9 rfl rfl rfl rfl rfl ?_
   refine A4 ?_
   refine C8 ?_
   (refine K1 [0] ((_, _)) ?_ rfl (by first | (dsimp only; rfl) | rfl) (N1 rfl (C5 rfl (by first | rfl | (refine congrArg AV.bool ?_; simp_all; done)))); (dsimp only; first | omega | exact ⟨by omega, Int.tmod_nonneg _ (by omega), .inl (Int.tmod_lt_of_pos _ (by omega))⟩))
  ·intro h11
   have k11 := of_decide_eq_false h11; try simp only [A6] at k11
   refine D2 (A3 (A2 ?_))
   refine A5 rfl rfl rfl rfl rfl ?_
   refine A5 rfl rfl rfl rfl rfl ?_
   refine A1 rfl rfl rfl (Aj0 rfl (A0 rfl) (A0 rfl) (by omega)) ?_
   refine B9 rfl rfl rfl rfl rfl ?_
   refine A4 ?_
   refine C8 ?_
   (refine K1 [0] ((_, _)) ?_ rfl (by first | (dsimp only; rfl) | rfl) (N1 rfl (C5 rfl (by first | rfl | (refine congrArg AV.bool ?_; simp_all; done)))); (dsimp only; first | omega | exact ⟨by omega, Int.tmod_nonneg _ (by omega), .inl (Int.tmod_lt_of_pos _ (by omega))⟩))
theorem AB9 (b : Nat) (code : List Int) (hcode : ByteL code) (c : TCur) (n : Int) (hn : n ≤ 1000000) (hp : c.p ≤ 7000000) : GSpec Tryz.prog 79 [AV.ptr b 0, AV.int n] [.box b 127 (curC code c)] (fun x : TCur × Bool => x.1.p ≤ c.p + 2) (fun x => [.box b 127 (curC code x.1)]) (fun x => AV.bool x.2) := by
 refine H5 Tryz.func79 rfl Tryz.ntmps79 rfl ?_
 refine A3 (A2 ?_)
 refine A1 rfl rfl rfl (C3 rfl F4) ?_
 refine A4 (A3 (A2 ?_))
 refine A5 rfl rfl rfl rfl rfl ?_
 refine A5 rfl rfl rfl rfl rfl ?_
 refine I2 [0] rfl rfl rfl rfl Tryz.call100 rfl (T0 _ _ hcode _ _ (by omega) (by omega)) (A9 (A0 rfl) (A9 (A0 rfl) D1)) rfl ?_
 intro x7 ok7
 refine A1 rfl rfl rfl (M9 rfl (A0 rfl) C4) ?_
 refine B9 rfl rfl rfl rfl rfl ?_
 refine A4 ?_
 refine C8 ?_
 (refine K1 [0] ((_, _)) ?_ rfl (by first | (dsimp only; rfl) | rfl) (N1 rfl (C5 rfl (by rfl))); exact ok7.1)
theorem Ag1 (b : Nat) (code : List Int) (hcode : ByteL code) (c : TCur) (l : List Str) (hl : (∀ s ∈ l, s.length ≤ 64) ∧ 1 ≤ l.length ∧ l.length ≤ 1000) (hp : c.p ≤ 7000000) : GSpec Tryz.prog 151 [AV.ptr b 0, strs l] [.box b 127 (curC code c)] (fun x : TCur × Str => x.1.p ≤ c.p + 2 ∧ x.2.length ≤ 64) (fun x => [.box b 127 (curC code x.1)]) (fun x => AV.str x.2) := by
 obtain ⟨hls, hl1, hl2⟩ := hl
 refine H5 Tryz.func151 rfl Tryz.ntmps151 rfl ?_
 refine A3 (A2 ?_)
 refine A1 rfl rfl rfl (C3 rfl (S1 (l := []) rfl)) ?_
 refine A4 (A3 (A2 ?_))
 refine A5 rfl rfl rfl rfl rfl ?_
 refine A5 rfl rfl rfl rfl rfl ?_
 refine A5 rfl rfl rfl rfl rfl ?_
 refine A1 rfl rfl rfl (G9 rfl E4 (A0 rfl)) ?_
 refine I2 [0] rfl rfl rfl rfl Tryz.call100 rfl (T0 _ _ hcode _ _ (by simp only [A6]; omega) (by omega)) (A9 (A0 rfl) (A9 (A0 rfl) D1)) rfl ?_
 intro x9 ok9
 simp only [A6] at ok9
 obtain ⟨y, hy⟩ := get_some (show x9.2.toNat < l.length by omega)
 refine A1 rfl rfl rfl (I7 rfl E4 F5 (A0 rfl) (A0 rfl) hy (by omega)) ?_
 refine A1 rfl rfl rfl (N6 rfl (A0 rfl) H1 rfl) ?_
 refine B9 rfl rfl rfl rfl rfl ?_
 refine A4 ?_
 refine C8 ?_
 (refine K1 [0] ((_, _)) ?_ rfl (by first | (dsimp only; rfl) | rfl) (N1 rfl (C5 rfl (by rfl))); exact ⟨ok9.1, hls _ (G6 hy)⟩)
theorem r7 (b : Nat) (code : List Int) (hcode : ByteL code) (c : TCur) (l : List Int) (hl : 1 ≤ l.length ∧ l.length ≤ 1000) (hp : c.p ≤ 7000000) : GSpec Tryz.prog 129 [AV.ptr b 0, ints l] [.box b 127 (curC code c)] (fun x : TCur × Int => x.1.p ≤ c.p + 2 ∧ x.2 ∈ l) (fun x => [.box b 127 (curC code x.1)]) (fun x => AV.int x.2) := by
 obtain ⟨hl1, hl2⟩ := hl
 refine H5 Tryz.func129 rfl Tryz.ntmps129 rfl ?_
 refine A3 (A2 ?_)
 refine A1 rfl rfl rfl (C3 rfl C4) ?_
 refine A4 (A3 (A2 ?_))
 refine A5 rfl rfl rfl rfl rfl ?_
 refine A5 rfl rfl rfl rfl rfl ?_
 refine A5 rfl rfl rfl rfl rfl ?_
 refine A1 rfl rfl rfl (G9 rfl N8 (A0 rfl)) ?_
 refine I2 [0] rfl rfl rfl rfl Tryz.call100 rfl (T0 _ _ hcode _ _ (by simp only [A6]; omega) (by omega)) (A9 (A0 rfl) (A9 (A0 rfl) D1)) rfl ?_
 intro x9 ok9
 simp only [A6] at ok9
 obtain ⟨y, hy⟩ := get_some (show x9.2.toNat < l.length by omega)
 refine A1 rfl rfl rfl (I7 rfl N8 C0 (A0 rfl) (A0 rfl) hy (by omega)) ?_
 refine A1 rfl rfl rfl (N6 rfl (A0 rfl) D0 rfl) ?_
 refine B9 rfl rfl rfl rfl rfl ?_
 refine A4 ?_
 refine C8 ?_
 (refine K1 [0] ((_, _)) ?_ rfl (by first | (dsimp only; rfl) | rfl) (N1 rfl (C5 rfl (by rfl))); exact ⟨ok9.1, G6 hy⟩)
theorem AZ3 (b : Nat) (code : List Int) (hcode : ByteL code) (c : TCur) (hp : c.p ≤ 6000000) : GSpec Tryz.prog 116 [AV.ptr b 0] [.box b 127 (curC code c)] (fun x : TCur × Str => x.1.p ≤ c.p + 2 ∧ x.2.length ≤ 64) (fun x => [.box b 127 (curC code x.1)]) (fun x => AV.str x.2) := by
 refine H5 Tryz.func116 rfl Tryz.ntmps116 rfl ?_
 refine A3 (A2 ?_)
 refine A1 rfl rfl rfl (C3 rfl (S1 (l := []) rfl)) ?_
 refine A4 (A3 (A2 ?_))
 refine A5 rfl rfl rfl rfl rfl ?_
 refine A1 rfl rfl rfl (L9 rfl E4 F5 Tryz.zeroValue9 rfl rfl rfl rfl (E0 (S1 (l := [97]) rfl) (P6 _) (E0 (S1 (l := [98]) rfl) (P6 _) (E0 (S1 (l := [99]) rfl) (P6 _) (E0 (S1 (l := [109]) rfl) (P6 _) (E0 (S1 (l := [110]) rfl) (P6 _) (E0 (S1 (l := [122]) rfl) (P6 _) (E0 (S1 (l := [114, 47, 49]) rfl) (P6 _) (E0 (S1 (l := [105, 47, 120, 47, 49]) rfl) (P6 _) H6)))))))) rfl rfl) ?_
 refine I2 [0] rfl rfl rfl rfl Tryz.call151 rfl (Ag1 _ _ hcode _ ([[97], [98], [99], [109], [110], [122], [114, 47, 49], [105, 47, 120, 47, 49]] : List Str) (by decide) (by omega)) (A9 (A0 rfl) (A9 (A0 rfl) D1)) rfl ?_
 intro x5 ok5
 refine B9 rfl rfl rfl rfl rfl ?_
 refine A4 ?_
 refine C8 ?_
 (refine K1 [0] ((_, _)) ?_ rfl (by first | (dsimp only; rfl) | rfl) (N1 rfl (C5 rfl (by rfl))); exact ok5)
end Go.Proofs.YtnlhbdkcgaeimaaGreat

set_option linter.unusedVariables false
set_option linter.unusedSimpArgs false
set_option maxRecDepth 100000
namespace Go.Proofs.YtnlhbdkcgaeimaaGreat
open Go Go.AV Go.M
attribute [local irreducible] OpW OpA OpS AWP FSpec ESpec GSpec OpE RetOk RetOkG RvDen Le Ev GuardIs SrcIs
theorem big_spec (code more : List Int) : FSpec Tryz.prog 8 [bytesI code, bytesI more] (AV.bool (bigB code more)) := by
 refine E7 Tryz.func8 rfl Tryz.ntmps8 rfl ?_
 refine T1 (t := 0) rfl fun hl0 => ?_
 try simp only [A6] at hl0
 refine T1 (t := 1) rfl fun hl1 => ?_
 try simp only [A6] at hl1
 refine A3 (A2 ?_)
 refine A1 rfl rfl rfl (C3 rfl F4) ?_
 refine A4 (A3 (A2 ?_))
 refine A5 rfl rfl rfl rfl rfl ?_
 refine A1 rfl rfl rfl (G9 rfl S6 (A0 rfl)) ?_
 refine A1 rfl rfl rfl (P8 rfl (A0 rfl) C4) ?_
 refine A5 rfl rfl rfl rfl rfl ?_
 refine B4 rfl rfl (D4 rfl rfl rfl) (fun hc => C6 rfl (A0 rfl)) ?_
 refine B4 rfl rfl (D4 rfl rfl rfl) (fun hc => G9 rfl S6 (B0 rfl hc)) ?_
 refine B4 rfl rfl (D4 rfl rfl rfl) (fun hc => C6 rfl (A0 rfl)) ?_
 refine B4 rfl rfl (D4 rfl rfl rfl) (fun hc => G9 rfl S6 (B0 rfl hc)) ?_
 refine B4 rfl rfl (D4 rfl rfl rfl) (fun hc => Q0 rfl C4 (B0 rfl hc) (by simp only [A6]; omega)) ?_
 refine B4 rfl rfl (D4 rfl rfl rfl) (fun hc => P8 rfl (B0 rfl hc) (B0 rfl hc)) ?_
 refine A1 rfl rfl rfl (Q4 rfl (A0 rfl) (G4 rfl)) ?_
 refine B9 rfl rfl rfl rfl rfl ?_
 refine A4 ?_
 refine C8 ?_
 exact H9 rfl (C5 rfl (by (refine congrArg AV.bool ?_; unfold bigB; simp only [A6])))
end Go.Proofs.YtnlhbdkcgaeimaaGreat

set_option linter.unusedVariables false
set_option linter.unusedSimpArgs false
set_option maxRecDepth 100000
namespace Go.Proofs.YtnlhbdkcgaeimaaGreat
open Go Go.AV Go.M
attribute [local irreducible] OpW OpA OpS AWP FSpec ESpec GSpec OpE RetOk RetOkG RvDen Le Ev GuardIs SrcIs Int.tmod Int.tdiv IntKind.wrap bandI
end Go.Proofs.YtnlhbdkcgaeimaaGreat

set_option linter.unusedVariables false
set_option linter.unusedSimpArgs false
set_option maxRecDepth 100000
set_option maxHeartbeats 1000000
namespace Go.Proofs.YtnlhbdkcgaeimaaGreat
open Go Go.AV Go.M
attribute [local irreducible] OpW OpA OpS AWP FSpec ESpec GSpec OpE RetOk RetOkG RvDen Le Ev GuardIs SrcIs Int.tmod Int.tdiv IntKind.wrap
theorem w8 (n : Int) : FSpec Tryz.prog 95 [AV.int n] (AV.bool (isTxnR n)) := by
 refine E7 Tryz.func95 rfl Tryz.ntmps95 rfl ?_
 refine A3 (A2 ?_)
 refine A1 rfl rfl rfl (C3 rfl F4) ?_
 refine A4 (A3 (A2 ?_))
 refine A5 rfl rfl rfl rfl rfl ?_
 refine A1 rfl rfl rfl (E5 rfl Tryz.call94 rfl (g6 _ _ _) (A9 (A0 rfl) (A9 C4 (A9 C4 D1)))) ?_
 refine B9 rfl rfl rfl rfl rfl ?_
 refine A4 ?_
 refine C8 ?_
 exact H9 rfl (C5 rfl (by rfl))
theorem AP1 {r : TRec} (hs : r.size ≤ 1048576) : (∀ k ∈ r.Reads, k.length ≤ 4611686018427387904) ∧ sizeL TWrite.size r.Writes ≤ 1048576 ∧ r.Reads.length ≤ 1048576 ∧ r.Writes.length ≤ 1048576 := by
  unfold TRec.size at hs
  have h1 := O2 (f := fun x : Str => x.length) (l := r.Reads)
  have h2 := O2 (f := TWrite.size) (l := r.Writes)
  exact ⟨fun k hk => by have := z6 (f := fun x : Str => x.length) hk; omega, by omega, by omega, by omega⟩
theorem AP2 (r : TRec) (hs : r.size ≤ 1048576) : FSpec Tryz.prog 83 [AV.agg r.cs] (AV.bool (goodRec r)) := by
 obtain ⟨hr1, hr2, hr3, hr4⟩ := AP1 hs
 refine E7 Tryz.func83 rfl Tryz.ntmps83 rfl ?_
 refine A3 (A2 ?_)
 refine M3 rfl rfl rfl rfl (A0 rfl) ?_
 intro b1
 refine A1 rfl rfl rfl (C3 rfl F4) ?_
 refine A4 (A3 (A2 ?_))
 refine A1 rfl rfl rfl (B3 3 rfl B6 rfl C0 (A0 rfl) rfl) ?_
 refine A1 rfl rfl rfl (B1 0 rfl (A0 rfl) rfl D0 rfl) ?_
 refine A1 rfl rfl rfl (M9 rfl (A0 rfl) C4) ?_
 refine A5 rfl rfl rfl rfl rfl ?_
 refine B4 rfl rfl (C2 rfl rfl rfl) (fun hc => B3 4 rfl B6 rfl L7 (A0 rfl) rfl) ?_
 refine B4 rfl rfl (C2 rfl rfl rfl) (fun hc => B1 0 rfl (B0 rfl hc) rfl N9 rfl) ?_
 refine B4 rfl rfl (C2 rfl rfl rfl) (fun hc => G9 rfl E4 (B0 rfl hc)) ?_
 refine B4 rfl rfl (C2 rfl rfl rfl) (fun hc => M9 rfl (B0 rfl hc) C4) ?_
 refine A1 rfl rfl rfl (I6 rfl (A0 rfl) (G4 rfl)) ?_
 refine A5 rfl rfl rfl rfl rfl ?_
 refine B4 rfl rfl (C2 rfl rfl rfl) (fun hc => B3 5 rfl B6 rfl K2 (A0 rfl) rfl) ?_
 refine B4 rfl rfl (C2 rfl rfl rfl) (fun hc => B1 0 rfl (B0 rfl hc) rfl L8 rfl) ?_
 refine B4 rfl rfl (C2 rfl rfl rfl) (fun hc => G9 rfl F3 (B0 rfl hc)) ?_
 refine B4 rfl rfl (C2 rfl rfl rfl) (fun hc => M9 rfl (B0 rfl hc) C4) ?_
 refine A1 rfl rfl rfl (I6 rfl (A0 rfl) (G4 rfl)) ?_
 refine B9 rfl rfl rfl rfl rfl ?_
 refine A4 (A3 (A3 (A2 ?_)))
 refine A1 rfl rfl rfl (B3 0 rfl B6 rfl C0 (A0 rfl) rfl) ?_
 refine A1 rfl rfl rfl (B1 0 rfl (A0 rfl) rfl D0 rfl) ?_
 refine A4 (D7 (A3 (A2 ?_)))
 refine A1 rfl rfl rfl (M9 rfl (A0 rfl) C4) ?_
 refine B9 rfl rfl rfl rfl rfl ?_
 refine A4 ?_
 refine C7 (A0 rfl) ?_ ?_
 ·intro h21
  have k21 := L3 h21; try simp only [A6] at k21
  refine A3 (A2 ?_)
  refine A1 rfl rfl rfl (B3 1 rfl B6 rfl C0 (A0 rfl) rfl) ?_
  refine A1 rfl rfl rfl (B1 0 rfl (A0 rfl) rfl D0 rfl) ?_
  refine A1 rfl rfl rfl (E5 rfl Tryz.call95 rfl (w8 _) (A9 (A0 rfl) D1)) ?_
  refine A5 rfl rfl rfl rfl rfl ?_
  refine B4 rfl rfl (C2 rfl rfl rfl) (fun hc => B3 2 rfl B6 rfl C0 (A0 rfl) rfl) ?_
  refine B4 rfl rfl (C2 rfl rfl rfl) (fun hc => B1 0 rfl (B0 rfl hc) rfl D0 rfl) ?_
  refine B4 rfl rfl (C2 rfl rfl rfl) (fun hc => E5 rfl Tryz.call134 rfl (m0 _) (A9 (B0 rfl hc) D1)) ?_
  refine A1 rfl rfl rfl (I6 rfl (A0 rfl) (G4 rfl)) ?_
  refine A5 rfl rfl rfl rfl rfl ?_
  refine B4 rfl rfl (C2 rfl rfl rfl) (fun hc => B3 3 rfl B6 rfl C0 (A0 rfl) rfl) ?_
  refine B4 rfl rfl (C2 rfl rfl rfl) (fun hc => B1 0 rfl (B0 rfl hc) rfl D0 rfl) ?_
  refine B4 rfl rfl (C2 rfl rfl rfl) (fun hc => E5 rfl Tryz.call94 rfl (g6 _ _ _) (A9 (B0 rfl hc) (A9 C4 (A9 C4 D1)))) ?_
  refine A1 rfl rfl rfl (I6 rfl (A0 rfl) (G4 rfl)) ?_
  refine A5 rfl rfl rfl rfl rfl ?_
  refine B4 rfl rfl (C2 rfl rfl rfl) (fun hc => B3 4 rfl B6 rfl L7 (A0 rfl) rfl) ?_
  refine B4 rfl rfl (C2 rfl rfl rfl) (fun hc => B1 0 rfl (B0 rfl hc) rfl N9 rfl) ?_
  refine B4 rfl rfl (C2 rfl rfl rfl) (fun hc => G9 rfl E4 (B0 rfl hc)) ?_
  refine B4 rfl rfl (C2 rfl rfl rfl) (fun hc => U5 rfl (B0 rfl hc) C4) ?_
  refine A1 rfl rfl rfl (I6 rfl (A0 rfl) (G4 rfl)) ?_
  refine A5 rfl rfl rfl rfl rfl ?_
  refine B4 rfl rfl (C2 rfl rfl rfl) (fun hc => B3 4 rfl B6 rfl L7 (A0 rfl) rfl) ?_
  refine B4 rfl rfl (C2 rfl rfl rfl) (fun hc => B1 0 rfl (B0 rfl hc) rfl N9 rfl) ?_
  refine B4 rfl rfl (C2 rfl rfl rfl) (fun hc => E5 rfl Tryz.call155 rfl (t8 r.Reads hr1) (A9 (B0 rfl hc) D1)) ?_
  refine A1 rfl rfl rfl (I6 rfl (A0 rfl) (G4 rfl)) ?_
  refine A5 rfl rfl rfl rfl rfl ?_
  refine B4 rfl rfl (C2 rfl rfl rfl) (fun hc => B3 5 rfl B6 rfl K2 (A0 rfl) rfl) ?_
  refine B4 rfl rfl (C2 rfl rfl rfl) (fun hc => B1 0 rfl (B0 rfl hc) rfl L8 rfl) ?_
  refine B4 rfl rfl (C2 rfl rfl rfl) (fun hc => G9 rfl F3 (B0 rfl hc)) ?_
  refine B4 rfl rfl (C2 rfl rfl rfl) (fun hc => U5 rfl (B0 rfl hc) C4) ?_
  refine A1 rfl rfl rfl (I6 rfl (A0 rfl) (G4 rfl)) ?_
  refine A5 rfl rfl rfl rfl rfl ?_
  refine B4 rfl rfl (C2 rfl rfl rfl) (fun hc => B3 5 rfl B6 rfl K2 (A0 rfl) rfl) ?_
  refine B4 rfl rfl (C2 rfl rfl rfl) (fun hc => B1 0 rfl (B0 rfl hc) rfl L8 rfl) ?_
  refine B4 rfl rfl (C2 rfl rfl rfl) (fun hc => E5 rfl Tryz.call177 rfl (AY9 r.Writes (by omega)) (A9 (B0 rfl hc) D1)) ?_
  refine A1 rfl rfl rfl (I6 rfl (A0 rfl) (G4 rfl)) ?_
  refine A5 rfl rfl rfl rfl rfl ?_
  refine B4 rfl rfl (C2 rfl rfl rfl) (fun hc => B3 4 rfl B6 rfl L7 (A0 rfl) rfl) ?_
  refine B4 rfl rfl (C2 rfl rfl rfl) (fun hc => B1 0 rfl (B0 rfl hc) rfl N9 rfl) ?_
  refine B4 rfl rfl (C2 rfl rfl rfl) (fun hc => G9 rfl E4 (B0 rfl hc)) ?_
  refine B4 rfl rfl (C2 rfl rfl rfl) (fun hc => B3 5 rfl B6 rfl K2 (A0 rfl) rfl) ?_
  refine B4 rfl rfl (C2 rfl rfl rfl) (fun hc => B1 0 rfl (B0 rfl hc) rfl L8 rfl) ?_
  refine B4 rfl rfl (C2 rfl rfl rfl) (fun hc => G9 rfl F3 (B0 rfl hc)) ?_
  refine B4 rfl rfl (C2 rfl rfl rfl) (fun hc => G7 rfl (B0 rfl hc) (B0 rfl hc) (by first | omega | ((try simp only [A6, A7, B2, B7, A8, szR] at *); omega) | (have hc2 := hc; simp only [Bool.and_eq_true, Bool.or_eq_true, Bool.or_eq_false_iff, Bool.and_eq_false_iff, Bool.not_eq_true', Bool.not_eq_false', decide_eq_true_eq, decide_eq_false_iff_not, beq_iff_eq, bne_iff_ne, A6, A7] at hc2; omega))) ?_
  refine B4 rfl rfl (C2 rfl rfl rfl) (fun hc => P8 rfl (B0 rfl hc) C4) ?_
  refine A1 rfl rfl rfl (I6 rfl (A0 rfl) (G4 rfl)) ?_
  refine A5 rfl rfl rfl rfl rfl ?_
  refine B4 rfl rfl (C2 rfl rfl rfl) (fun hc => B3 6 rfl B6 rfl J4 (A0 rfl) rfl) ?_
  refine B4 rfl rfl (C2 rfl rfl rfl) (fun hc => B1 0 rfl (B0 rfl hc) rfl L0 rfl) ?_
  refine B4 rfl rfl (C2 rfl rfl rfl) (fun hc => M2 rfl (B0 rfl hc)) ?_
  refine A1 rfl rfl rfl (I6 rfl (A0 rfl) (G4 rfl)) ?_
  refine B9 rfl rfl rfl rfl rfl ?_
  refine A4 ?_
  refine C8 ?_
  exact H9 rfl (C5 rfl (by first | (exfalso; omega) | exact congrArg AV.bool (by unfold goodRec good1 good2 good4 bareR; simp [*])))
 ·intro h21
  have k21 := L2 h21; try simp only [A6] at k21
  refine A3 (A3 (A2 ?_))
  refine A1 rfl rfl rfl (M9 rfl (A0 rfl) C4) ?_
  refine B9 rfl rfl rfl rfl rfl ?_
  refine A4 ?_
  refine C7 (A0 rfl) ?_ ?_
  ·intro h73
   have k73 := L3 h73; try simp only [A6] at k73
   refine D2 ?_
   refine C7 (A0 rfl) ?_ ?_
   ·intro h73
    have k73 := L3 h73; try simp only [A6] at k73
    refine A3 (A2 ?_)
    refine A5 rfl rfl rfl rfl rfl ?_
    refine A5 rfl rfl rfl rfl rfl ?_
    refine B4 rfl rfl (C2 rfl rfl rfl) (fun hc => B3 1 rfl B6 rfl C0 (A0 rfl) rfl) ?_
    refine B4 rfl rfl (C2 rfl rfl rfl) (fun hc => B1 0 rfl (B0 rfl hc) rfl D0 rfl) ?_
    refine B4 rfl rfl (C2 rfl rfl rfl) (fun hc => E5 rfl Tryz.call95 rfl (w8 _) (A9 (B0 rfl hc) D1)) ?_
    refine A1 rfl rfl rfl (I6 rfl (A0 rfl) (G4 rfl)) ?_
    refine A5 rfl rfl rfl rfl rfl ?_
    refine B4 rfl rfl (C2 rfl rfl rfl) (fun hc => B3 6 rfl B6 rfl J4 (A0 rfl) rfl) ?_
    refine B4 rfl rfl (C2 rfl rfl rfl) (fun hc => B1 0 rfl (B0 rfl hc) rfl L0 rfl) ?_
    refine B4 rfl rfl (C2 rfl rfl rfl) (fun hc => C6 rfl (B0 rfl hc)) ?_
    refine B4 rfl rfl (E8 rfl rfl rfl) (fun hc => B3 2 rfl B6 rfl C0 (A0 rfl) rfl) ?_
    refine B4 rfl rfl (E8 rfl rfl rfl) (fun hc => B1 0 rfl (B0 rfl hc) rfl D0 rfl) ?_
    refine B4 rfl rfl (E8 rfl rfl rfl) (fun hc => E5 rfl Tryz.call134 rfl (m0 _) (A9 (B0 rfl hc) D1)) ?_
    refine B4 rfl rfl (C2 rfl rfl rfl) (fun hc => I6 rfl (B0 rfl hc) (S0 rfl hc)) ?_
    refine B4 rfl rfl (C2 rfl rfl rfl) (fun hc => C6 rfl (B0 rfl hc)) ?_
    refine B4 rfl rfl (Q3 rfl rfl rfl) (fun hc => B3 6 rfl B6 rfl J4 (A0 rfl) rfl) ?_
    refine B4 rfl rfl (Q3 rfl rfl rfl) (fun hc => B1 0 rfl (B0 rfl hc) rfl L0 rfl) ?_
    refine B4 rfl rfl (Q3 rfl rfl rfl) (fun hc => M2 rfl (B0 rfl hc)) ?_
    refine B4 rfl rfl (Q3 rfl rfl rfl) (fun hc => C6 rfl (B0 rfl hc)) ?_
    refine B4 rfl rfl (E8 rfl rfl rfl) (fun hc => B3 2 rfl B6 rfl C0 (A0 rfl) rfl) ?_
    refine B4 rfl rfl (E8 rfl rfl rfl) (fun hc => B1 0 rfl (B0 rfl hc) rfl D0 rfl) ?_
    refine B4 rfl rfl (E8 rfl rfl rfl) (fun hc => M9 rfl (B0 rfl hc) C4) ?_
    refine B4 rfl rfl (Q3 rfl rfl rfl) (fun hc => I6 rfl (B0 rfl hc) (S0 rfl hc)) ?_
    refine B4 rfl rfl (C2 rfl rfl rfl) (fun hc => Q4 rfl (B0 rfl hc) (S0 rfl hc)) ?_
    refine A1 rfl rfl rfl (I6 rfl (A0 rfl) (G4 rfl)) ?_
    refine B9 rfl rfl rfl rfl rfl ?_
    refine A4 ?_
    refine C8 ?_
    exact H9 rfl (C5 rfl (by first | (exfalso; omega) | exact congrArg AV.bool (by unfold goodRec good1 good2 good4 bareR; simp [*])))
   ·intro h73
    have k73 := L2 h73; try simp only [A6] at k73
    refine A3 (A2 ?_)
    refine A1 rfl rfl rfl (M9 rfl (A0 rfl) C4) ?_
    refine B9 rfl rfl rfl rfl rfl ?_
    refine A4 ?_
    refine C7 (A0 rfl) ?_ ?_
    ·intro h101
     have k101 := L3 h101; try simp only [A6] at k101
     refine A3 (A2 ?_)
     refine A5 rfl rfl rfl rfl rfl ?_
     refine A5 rfl rfl rfl rfl rfl ?_
     refine B4 rfl rfl (C2 rfl rfl rfl) (fun hc => B3 1 rfl B6 rfl C0 (A0 rfl) rfl) ?_
     refine B4 rfl rfl (C2 rfl rfl rfl) (fun hc => B1 0 rfl (B0 rfl hc) rfl D0 rfl) ?_
     refine B4 rfl rfl (C2 rfl rfl rfl) (fun hc => M9 rfl (B0 rfl hc) C4) ?_
     refine A1 rfl rfl rfl (I6 rfl (A0 rfl) (G4 rfl)) ?_
     refine A5 rfl rfl rfl rfl rfl ?_
     refine B4 rfl rfl (C2 rfl rfl rfl) (fun hc => B3 2 rfl B6 rfl C0 (A0 rfl) rfl) ?_
     refine B4 rfl rfl (C2 rfl rfl rfl) (fun hc => B1 0 rfl (B0 rfl hc) rfl D0 rfl) ?_
     refine B4 rfl rfl (C2 rfl rfl rfl) (fun hc => E5 rfl Tryz.call134 rfl (m0 _) (A9 (B0 rfl hc) D1)) ?_
     refine A1 rfl rfl rfl (I6 rfl (A0 rfl) (G4 rfl)) ?_
     refine A5 rfl rfl rfl rfl rfl ?_
     refine B4 rfl rfl (C2 rfl rfl rfl) (fun hc => B3 6 rfl B6 rfl J4 (A0 rfl) rfl) ?_
     refine B4 rfl rfl (C2 rfl rfl rfl) (fun hc => B1 0 rfl (B0 rfl hc) rfl L0 rfl) ?_
     refine B4 rfl rfl (C2 rfl rfl rfl) (fun hc => M2 rfl (B0 rfl hc)) ?_
     refine A1 rfl rfl rfl (I6 rfl (A0 rfl) (G4 rfl)) ?_
     refine B9 rfl rfl rfl rfl rfl ?_
     refine A4 ?_
     refine C8 ?_
     exact H9 rfl (C5 rfl (by first | (exfalso; omega) | exact congrArg AV.bool (by unfold goodRec good1 good2 good4 bareR; simp [*])))
    ·intro h101
     have k101 := L2 h101; try simp only [A6] at k101
     refine D2 (A3 (A2 ?_))
     refine A1 rfl rfl rfl (C3 rfl F4) ?_
     refine A4 ?_
     refine C8 ?_
     exact H9 rfl (C5 rfl (by first | (exfalso; omega) | exact congrArg AV.bool (by unfold goodRec good1 good2 good4 bareR; simp [*])))
  ·intro h73
   have k73 := L2 h73; try simp only [A6] at k73
   refine A2 ?_
   refine A1 rfl rfl rfl (M9 rfl (A0 rfl) C4) ?_
   refine B9 rfl rfl rfl rfl rfl ?_
   refine A4 ?_
   refine C7 (A0 rfl) ?_ ?_
   ·intro h73
    have k73 := L3 h73; try simp only [A6] at k73
    refine A3 (A2 ?_)
    refine A5 rfl rfl rfl rfl rfl ?_
    refine A5 rfl rfl rfl rfl rfl ?_
    refine B4 rfl rfl (C2 rfl rfl rfl) (fun hc => B3 1 rfl B6 rfl C0 (A0 rfl) rfl) ?_
    refine B4 rfl rfl (C2 rfl rfl rfl) (fun hc => B1 0 rfl (B0 rfl hc) rfl D0 rfl) ?_
    refine B4 rfl rfl (C2 rfl rfl rfl) (fun hc => E5 rfl Tryz.call95 rfl (w8 _) (A9 (B0 rfl hc) D1)) ?_
    refine A1 rfl rfl rfl (I6 rfl (A0 rfl) (G4 rfl)) ?_
    refine A5 rfl rfl rfl rfl rfl ?_
    refine B4 rfl rfl (C2 rfl rfl rfl) (fun hc => B3 6 rfl B6 rfl J4 (A0 rfl) rfl) ?_
    refine B4 rfl rfl (C2 rfl rfl rfl) (fun hc => B1 0 rfl (B0 rfl hc) rfl L0 rfl) ?_
    refine B4 rfl rfl (C2 rfl rfl rfl) (fun hc => C6 rfl (B0 rfl hc)) ?_
    refine B4 rfl rfl (E8 rfl rfl rfl) (fun hc => B3 2 rfl B6 rfl C0 (A0 rfl) rfl) ?_
    refine B4 rfl rfl (E8 rfl rfl rfl) (fun hc => B1 0 rfl (B0 rfl hc) rfl D0 rfl) ?_
    refine B4 rfl rfl (E8 rfl rfl rfl) (fun hc => E5 rfl Tryz.call134 rfl (m0 _) (A9 (B0 rfl hc) D1)) ?_
    refine B4 rfl rfl (C2 rfl rfl rfl) (fun hc => I6 rfl (B0 rfl hc) (S0 rfl hc)) ?_
    refine B4 rfl rfl (C2 rfl rfl rfl) (fun hc => C6 rfl (B0 rfl hc)) ?_
    refine B4 rfl rfl (Q3 rfl rfl rfl) (fun hc => B3 6 rfl B6 rfl J4 (A0 rfl) rfl) ?_
    refine B4 rfl rfl (Q3 rfl rfl rfl) (fun hc => B1 0 rfl (B0 rfl hc) rfl L0 rfl) ?_
    refine B4 rfl rfl (Q3 rfl rfl rfl) (fun hc => M2 rfl (B0 rfl hc)) ?_
    refine B4 rfl rfl (Q3 rfl rfl rfl) (fun hc => C6 rfl (B0 rfl hc)) ?_
    refine B4 rfl rfl (E8 rfl rfl rfl) (fun hc => B3 2 rfl B6 rfl C0 (A0 rfl) rfl) ?_
    refine B4 rfl rfl (E8 rfl rfl rfl) (fun hc => B1 0 rfl (B0 rfl hc) rfl D0 rfl) ?_
    refine B4 rfl rfl (E8 rfl rfl rfl) (fun hc => M9 rfl (B0 rfl hc) C4) ?_
    refine B4 rfl rfl (Q3 rfl rfl rfl) (fun hc => I6 rfl (B0 rfl hc) (S0 rfl hc)) ?_
    refine B4 rfl rfl (C2 rfl rfl rfl) (fun hc => Q4 rfl (B0 rfl hc) (S0 rfl hc)) ?_
    refine A1 rfl rfl rfl (I6 rfl (A0 rfl) (G4 rfl)) ?_
    refine B9 rfl rfl rfl rfl rfl ?_
    refine A4 ?_
    refine C8 ?_
    exact H9 rfl (C5 rfl (by first | (exfalso; omega) | exact congrArg AV.bool (by unfold goodRec good1 good2 good4 bareR; simp [*])))
   ·intro h73
    have k73 := L2 h73; try simp only [A6] at k73
    refine A3 (A2 ?_)
    refine A1 rfl rfl rfl (M9 rfl (A0 rfl) C4) ?_
    refine B9 rfl rfl rfl rfl rfl ?_
    refine A4 ?_
    refine C7 (A0 rfl) ?_ ?_
    ·intro h101
     have k101 := L3 h101; try simp only [A6] at k101
     refine A3 (A2 ?_)
     refine A5 rfl rfl rfl rfl rfl ?_
     refine A5 rfl rfl rfl rfl rfl ?_
     refine B4 rfl rfl (C2 rfl rfl rfl) (fun hc => B3 1 rfl B6 rfl C0 (A0 rfl) rfl) ?_
     refine B4 rfl rfl (C2 rfl rfl rfl) (fun hc => B1 0 rfl (B0 rfl hc) rfl D0 rfl) ?_
     refine B4 rfl rfl (C2 rfl rfl rfl) (fun hc => M9 rfl (B0 rfl hc) C4) ?_
     refine A1 rfl rfl rfl (I6 rfl (A0 rfl) (G4 rfl)) ?_
     refine A5 rfl rfl rfl rfl rfl ?_
     refine B4 rfl rfl (C2 rfl rfl rfl) (fun hc => B3 2 rfl B6 rfl C0 (A0 rfl) rfl) ?_
     refine B4 rfl rfl (C2 rfl rfl rfl) (fun hc => B1 0 rfl (B0 rfl hc) rfl D0 rfl) ?_
     refine B4 rfl rfl (C2 rfl rfl rfl) (fun hc => E5 rfl Tryz.call134 rfl (m0 _) (A9 (B0 rfl hc) D1)) ?_
     refine A1 rfl rfl rfl (I6 rfl (A0 rfl) (G4 rfl)) ?_
     refine A5 rfl rfl rfl rfl rfl ?_
     refine B4 rfl rfl (C2 rfl rfl rfl) (fun hc => B3 6 rfl B6 rfl J4 (A0 rfl) rfl) ?_
     refine B4 rfl rfl (C2 rfl rfl rfl) (fun hc => B1 0 rfl (B0 rfl hc) rfl L0 rfl) ?_
     refine B4 rfl rfl (C2 rfl rfl rfl) (fun hc => M2 rfl (B0 rfl hc)) ?_
     refine A1 rfl rfl rfl (I6 rfl (A0 rfl) (G4 rfl)) ?_
     refine B9 rfl rfl rfl rfl rfl ?_
     refine A4 ?_
     refine C8 ?_
     exact H9 rfl (C5 rfl (by first | (exfalso; omega) | exact congrArg AV.bool (by unfold goodRec good1 good2 good4 bareR; simp [*])))
    ·intro h101
     have k101 := L2 h101; try simp only [A6] at k101
     refine D2 (A3 (A2 ?_))
     refine A1 rfl rfl rfl (C3 rfl F4) ?_
     refine A4 ?_
     refine C8 ?_
     exact H9 rfl (C5 rfl (by first | (exfalso; omega) | exact congrArg AV.bool (by unfold goodRec good1 good2 good4 bareR; simp [*])))
theorem Ar0 (l : List Str) (hs : ∀ k ∈ l, k.length ≤ 4611686018427387904) : FSpec Tryz.prog 178 [strs l] (AV.bool (l4Keys l)) := by
 refine E7 Tryz.func178 rfl Tryz.ntmps178 rfl ?_
 refine T1 (t := 0) rfl fun hl => ?_
 try simp only [A6] at hl
 refine A3 (A2 ?_)
 refine A1 rfl rfl rfl (C3 rfl F4) ?_
 refine A4 (A3 (A3 (A2 ?_)))
 refine A5 rfl rfl rfl rfl rfl ?_
 refine A1 rfl rfl rfl (G9 rfl E4 (A0 rfl)) ?_
 refine A1 rfl rfl rfl (C6 rfl C4) ?_
 refine A4 (D7 ?_)
 refine J9 [(0, _), (5, _), (6, _)] _ (fun (i : Nat) => i ≤ l.length ∧ (l.all l3Key && adj Op.bytesLess l) = ((l.drop i).all l3Key && adj Op.bytesLess (l.drop (i - 1)))) (fun (i : Nat) => []) (fun (i : Nat) => [(7, AV.int i)]) (fun (i : Nat) => l.length - i) (0) ?_ (J8 ⟨rfl, rfl, rfl, rfl, trivial⟩) ?_
 ·exact ⟨Nat.zero_le _, rfl⟩
 intro i hinv
 refine A3 (A2 ?_)
 refine A1 rfl rfl rfl (K6 rfl (A0 rfl) (A0 rfl)) ?_
 refine A4 (A3 ?_)
 refine C7 (A0 rfl) ?_ ?_
 ·intro h8
  have k8 := of_decide_eq_true h8; try simp only [A6] at k8
  have hlt : i < l.length := by omega
  obtain ⟨x, hx⟩ := get_some hlt
  obtain ⟨y, hy⟩ := get_some (show i - 1 < l.length by omega)
  have hsx := hs x (G6 hx)
  refine D2 (A3 (D7 (A3 (A2 ?_))))
  refine A5 rfl rfl rfl rfl rfl ?_
  refine A1 rfl rfl rfl (AE2 rfl E4 F5 (A0 rfl) (A0 rfl) (by omega) (by simp only [Int.toNat_natCast, List.getElem?_map, hx, Option.map_some]; try rfl)) ?_
  refine A1 rfl rfl rfl (N6 rfl (A0 rfl) H1 rfl) ?_
  refine B9 rfl rfl rfl rfl rfl ?_
  refine B9 rfl rfl rfl rfl rfl ?_
  refine A4 (A3 (A2 ?_))
  refine A5 rfl rfl rfl rfl rfl ?_
  refine A1 rfl rfl rfl (E5 rfl Tryz.call119 rfl (AB7 _ (by omega)) (A9 (A0 rfl) D1)) ?_
  refine A1 rfl rfl rfl (M2 rfl (A0 rfl)) ?_
  refine A5 rfl rfl rfl rfl rfl ?_
  refine B4 rfl rfl (D4 rfl rfl rfl) (fun hc => C6 rfl (A0 rfl)) ?_
  refine B4 rfl rfl (D4 rfl rfl rfl) (fun hc => P8 rfl (B0 rfl hc) C4) ?_
  refine B4 rfl rfl (D4 rfl rfl rfl) (fun hc => C6 rfl (B0 rfl hc)) ?_
  refine B4 rfl rfl (E8 rfl rfl rfl) (fun hc => C6 rfl (A0 rfl)) ?_
  refine B4 rfl rfl (E8 rfl rfl rfl) (fun hc => C6 rfl (A0 rfl)) ?_
  refine B4 rfl rfl (E8 rfl rfl rfl) (fun hc => Q0 rfl (B0 rfl hc) C4 (by first | omega | ((try simp only [A6, A7, B2, B7, A8, szR] at *); omega) | (have hc2 := hc; simp only [Bool.and_eq_true, Bool.or_eq_true, Bool.or_eq_false_iff, Bool.and_eq_false_iff, Bool.not_eq_true', Bool.not_eq_false', decide_eq_true_eq, decide_eq_false_iff_not, beq_iff_eq, bne_iff_ne, A6, A7] at hc2; omega))) ?_
  refine B4 rfl rfl (E8 rfl rfl rfl) (fun hc => AE2 rfl E4 F5 (B0 rfl hc) (B0 rfl hc) (by have := of_decide_eq_true (and_r hc); omega) (by have := of_decide_eq_true (and_r hc); rw [show ((i : Int) - 1).toNat = i - 1 by omega]; simp only [List.getElem?_map, hy, Option.map_some]; try rfl)) ?_
  refine B4 rfl rfl (E8 rfl rfl rfl) (fun hc => N6 rfl (B0 rfl hc) H1 rfl) ?_
  refine B4 rfl rfl (E8 rfl rfl rfl) (fun hc => C6 rfl (A0 rfl)) ?_
  refine B4 rfl rfl (E8 rfl rfl rfl) (fun hc => Aj6 rfl (B0 rfl hc) (B0 rfl hc)) ?_
  refine B4 rfl rfl (D4 rfl rfl rfl) (fun hc => I6 rfl (B0 rfl hc) (S0 rfl hc)) ?_
  refine A1 rfl rfl rfl (Q4 rfl (A0 rfl) (G4 rfl)) ?_
  refine A4 ?_
  refine C7 (A0 rfl) ?_ ?_
  ·intro h27
   have hfin : (l.all l3Key && adj Op.bytesLess l) = false := by rw [hinv.2, drop_some hx, List.all_cons]; cases hg : l3Key x with | false => simp | true => (simp only [hg, Bool.not_true, Bool.false_or, Bool.and_eq_true, decide_eq_true_eq, Bool.not_eq_true'] at h27; rw [s6 hx hy (by omega) h27.2]; simp)
   refine A3 (A2 ?_)
   refine A1 rfl rfl rfl (C3 rfl F4) ?_
   refine A4 ?_
   refine C8 ?_
   exact H9 rfl (C5 rfl (by first | exact congrArg AV.bool (by unfold l4Keys; rw [hfin]; rfl) | exact congrArg AV.bool (by unfold l4Keys; rw [hinv.2, d8 hge, List.drop_eq_nil_of_le hge]; simp)))
  ·intro h27
   refine D2 (A2 ?_)
   refine A1 rfl rfl rfl (G7 rfl (A0 rfl) C4 (by first | omega | (simp only [A6, A7, B2, B7, A8, szR] at *; omega))) ?_
   refine A5 rfl rfl rfl rfl rfl ?_
   refine A4 ?_
   refine L4 i (i + 1) ?_ ?_ (J8 ⟨rfl, rfl, rfl, rfl, trivial⟩)
   ·exact ⟨by omega, by rw [hinv.2, drop_some hx, List.all_cons, s5 hx hy (fun h0 => by simp_all), show l3Key x = true by simp_all, Bool.true_and]⟩
   ·omega
 ·intro h8
  have k8 := of_decide_eq_false h8; try simp only [A6] at k8
  have hge : l.length ≤ i := by omega
  refine H3 ?_
  refine A3 (A2 ?_)
  refine A5 rfl rfl rfl rfl rfl ?_
  refine A1 rfl rfl rfl (G9 rfl E4 (A0 rfl)) ?_
  refine A1 rfl rfl rfl (U5 rfl (A0 rfl) C4) ?_
  refine B9 rfl rfl rfl rfl rfl ?_
  refine A4 ?_
  refine C8 ?_
  exact H9 rfl (C5 rfl (by first | exact congrArg AV.bool (by unfold l4Keys; rw [hfin]; rfl) | exact congrArg AV.bool (by unfold l4Keys; rw [hinv.2, d8 hge, List.drop_eq_nil_of_le hge]; simp)))
theorem AT6 (r : TRec) (hs : r.size ≤ 1048576) : FSpec Tryz.prog 85 [AV.agg r.cs] (AV.bool (l4Good r)) := by
 obtain ⟨hr1, hr2, hr3, hr4⟩ := AP1 hs
 refine E7 Tryz.func85 rfl Tryz.ntmps85 rfl ?_
 refine A3 (A2 ?_)
 refine M3 rfl rfl rfl rfl (A0 rfl) ?_
 intro b1
 refine A1 rfl rfl rfl (C3 rfl F4) ?_
 refine A4 (A3 (A3 (A2 ?_)))
 refine A1 rfl rfl rfl (B3 0 rfl B6 rfl C0 (A0 rfl) rfl) ?_
 refine A1 rfl rfl rfl (B1 0 rfl (A0 rfl) rfl D0 rfl) ?_
 refine A1 rfl rfl rfl (g8 rfl (A0 rfl) C4) ?_
 refine A5 rfl rfl rfl rfl rfl ?_
 refine B4 rfl rfl (C2 rfl rfl rfl) (fun hc => B3 3 rfl B6 rfl C0 (A0 rfl) rfl) ?_
 refine B4 rfl rfl (C2 rfl rfl rfl) (fun hc => B1 0 rfl (B0 rfl hc) rfl D0 rfl) ?_
 refine B4 rfl rfl (C2 rfl rfl rfl) (fun hc => g8 rfl (B0 rfl hc) C4) ?_
 refine B4 rfl rfl (C2 rfl rfl rfl) (fun hc => C6 rfl (B0 rfl hc)) ?_
 refine B4 rfl rfl (Q3 rfl rfl rfl) (fun hc => B3 4 rfl B6 rfl L7 (A0 rfl) rfl) ?_
 refine B4 rfl rfl (Q3 rfl rfl rfl) (fun hc => B1 0 rfl (B0 rfl hc) rfl N9 rfl) ?_
 refine B4 rfl rfl (Q3 rfl rfl rfl) (fun hc => G9 rfl E4 (B0 rfl hc)) ?_
 refine B4 rfl rfl (Q3 rfl rfl rfl) (fun hc => B3 5 rfl B6 rfl K2 (A0 rfl) rfl) ?_
 refine B4 rfl rfl (Q3 rfl rfl rfl) (fun hc => B1 0 rfl (B0 rfl hc) rfl L8 rfl) ?_
 refine B4 rfl rfl (Q3 rfl rfl rfl) (fun hc => G9 rfl F3 (B0 rfl hc)) ?_
 refine B4 rfl rfl (Q3 rfl rfl rfl) (fun hc => G7 rfl (B0 rfl hc) (B0 rfl hc) (by first | omega | ((try simp only [A6, A7, B2, B7, A8, szR] at *); omega) | (have hc2 := hc; simp only [Bool.and_eq_true, Bool.or_eq_true, Bool.or_eq_false_iff, Bool.and_eq_false_iff, Bool.not_eq_true', Bool.not_eq_false', decide_eq_true_eq, decide_eq_false_iff_not, beq_iff_eq, bne_iff_ne, A6, A7] at hc2; omega))) ?_
 refine B4 rfl rfl (Q3 rfl rfl rfl) (fun hc => P8 rfl (B0 rfl hc) C4) ?_
 refine B4 rfl rfl (C2 rfl rfl rfl) (fun hc => Q4 rfl (B0 rfl hc) (S0 rfl hc)) ?_
 refine A1 rfl rfl rfl (I6 rfl (A0 rfl) (G4 rfl)) ?_
 refine A4 ?_
 refine C7 (A0 rfl) ?_ ?_
 ·intro h20
  have ho : oddR r = true := by (unfold oddR; simpa using h20)
  refine A3 (A2 ?_)
  refine A1 rfl rfl rfl (C3 rfl F4) ?_
  refine A4 ?_
  refine C8 ?_
  exact H9 rfl (C5 rfl (by first | (exfalso; omega) | exact congrArg AV.bool (by unfold l4Good; rw [ho]; first | rfl | (unfold l4G1 l4G2 l4G4; simp [*]))))
 ·intro h20
  have ho : oddR r = false := by (unfold oddR; simpa using h20)
  refine D2 (A3 (A3 (A2 ?_)))
  refine A1 rfl rfl rfl (B3 0 rfl B6 rfl C0 (A0 rfl) rfl) ?_
  refine A1 rfl rfl rfl (B1 0 rfl (A0 rfl) rfl D0 rfl) ?_
  refine A4 (D7 (A3 (A2 ?_)))
  refine A1 rfl rfl rfl (M9 rfl (A0 rfl) C4) ?_
  refine B9 rfl rfl rfl rfl rfl ?_
  refine A4 ?_
  refine C7 (A0 rfl) ?_ ?_
  ·intro h23
   have k23 := L3 h23; try simp only [A6] at k23
   refine A3 (A2 ?_)
   refine A1 rfl rfl rfl (B3 1 rfl B6 rfl C0 (A0 rfl) rfl) ?_
   refine A1 rfl rfl rfl (B1 0 rfl (A0 rfl) rfl D0 rfl) ?_
   refine A1 rfl rfl rfl (E5 rfl Tryz.call137 rfl (a8 _ _ _) (A9 (A0 rfl) (A9 C4 (A9 C4 D1)))) ?_
   refine A5 rfl rfl rfl rfl rfl ?_
   refine B4 rfl rfl (C2 rfl rfl rfl) (fun hc => B3 2 rfl B6 rfl C0 (A0 rfl) rfl) ?_
   refine B4 rfl rfl (C2 rfl rfl rfl) (fun hc => B1 0 rfl (B0 rfl hc) rfl D0 rfl) ?_
   refine B4 rfl rfl (C2 rfl rfl rfl) (fun hc => E5 rfl Tryz.call147 rfl (m1 _) (A9 (B0 rfl hc) D1)) ?_
   refine A1 rfl rfl rfl (I6 rfl (A0 rfl) (G4 rfl)) ?_
   refine A5 rfl rfl rfl rfl rfl ?_
   refine B4 rfl rfl (C2 rfl rfl rfl) (fun hc => B3 3 rfl B6 rfl C0 (A0 rfl) rfl) ?_
   refine B4 rfl rfl (C2 rfl rfl rfl) (fun hc => B1 0 rfl (B0 rfl hc) rfl D0 rfl) ?_
   refine B4 rfl rfl (C2 rfl rfl rfl) (fun hc => E5 rfl Tryz.call137 rfl (a8 _ _ _) (A9 (B0 rfl hc) (A9 C4 (A9 C4 D1)))) ?_
   refine A1 rfl rfl rfl (I6 rfl (A0 rfl) (G4 rfl)) ?_
   refine A5 rfl rfl rfl rfl rfl ?_
   refine B4 rfl rfl (C2 rfl rfl rfl) (fun hc => B3 4 rfl B6 rfl L7 (A0 rfl) rfl) ?_
   refine B4 rfl rfl (C2 rfl rfl rfl) (fun hc => B1 0 rfl (B0 rfl hc) rfl N9 rfl) ?_
   refine B4 rfl rfl (C2 rfl rfl rfl) (fun hc => E5 rfl Tryz.call178 rfl (Ar0 r.Reads hr1) (A9 (B0 rfl hc) D1)) ?_
   refine A1 rfl rfl rfl (I6 rfl (A0 rfl) (G4 rfl)) ?_
   refine A5 rfl rfl rfl rfl rfl ?_
   refine B4 rfl rfl (C2 rfl rfl rfl) (fun hc => B3 5 rfl B6 rfl K2 (A0 rfl) rfl) ?_
   refine B4 rfl rfl (C2 rfl rfl rfl) (fun hc => B1 0 rfl (B0 rfl hc) rfl L8 rfl) ?_
   refine B4 rfl rfl (C2 rfl rfl rfl) (fun hc => E5 rfl Tryz.call166 rfl (Ah6 r.Writes (by omega)) (A9 (B0 rfl hc) D1)) ?_
   refine A1 rfl rfl rfl (I6 rfl (A0 rfl) (G4 rfl)) ?_
   refine A5 rfl rfl rfl rfl rfl ?_
   refine B4 rfl rfl (C2 rfl rfl rfl) (fun hc => B3 5 rfl B6 rfl K2 (A0 rfl) rfl) ?_
   refine B4 rfl rfl (C2 rfl rfl rfl) (fun hc => B1 0 rfl (B0 rfl hc) rfl L8 rfl) ?_
   refine B4 rfl rfl (C2 rfl rfl rfl) (fun hc => G9 rfl F3 (B0 rfl hc)) ?_
   refine B4 rfl rfl (C2 rfl rfl rfl) (fun hc => E5 rfl Tryz.call137 rfl (a8 _ _ _) (A9 (B0 rfl hc) (A9 C4 (A9 C4 D1)))) ?_
   refine A1 rfl rfl rfl (I6 rfl (A0 rfl) (G4 rfl)) ?_
   refine A5 rfl rfl rfl rfl rfl ?_
   refine B4 rfl rfl (C2 rfl rfl rfl) (fun hc => B3 4 rfl B6 rfl L7 (A0 rfl) rfl) ?_
   refine B4 rfl rfl (C2 rfl rfl rfl) (fun hc => B1 0 rfl (B0 rfl hc) rfl N9 rfl) ?_
   refine B4 rfl rfl (C2 rfl rfl rfl) (fun hc => G9 rfl E4 (B0 rfl hc)) ?_
   refine B4 rfl rfl (C2 rfl rfl rfl) (fun hc => B3 5 rfl B6 rfl K2 (A0 rfl) rfl) ?_
   refine B4 rfl rfl (C2 rfl rfl rfl) (fun hc => B1 0 rfl (B0 rfl hc) rfl L8 rfl) ?_
   refine B4 rfl rfl (C2 rfl rfl rfl) (fun hc => G9 rfl F3 (B0 rfl hc)) ?_
   refine B4 rfl rfl (C2 rfl rfl rfl) (fun hc => G7 rfl (B0 rfl hc) (B0 rfl hc) (by first | omega | ((try simp only [A6, A7, B2, B7, A8, szR] at *); omega) | (have hc2 := hc; simp only [Bool.and_eq_true, Bool.or_eq_true, Bool.or_eq_false_iff, Bool.and_eq_false_iff, Bool.not_eq_true', Bool.not_eq_false', decide_eq_true_eq, decide_eq_false_iff_not, beq_iff_eq, bne_iff_ne, A6, A7] at hc2; omega))) ?_
   refine B4 rfl rfl (C2 rfl rfl rfl) (fun hc => P8 rfl (B0 rfl hc) C4) ?_
   refine A1 rfl rfl rfl (I6 rfl (A0 rfl) (G4 rfl)) ?_
   refine A5 rfl rfl rfl rfl rfl ?_
   refine B4 rfl rfl (C2 rfl rfl rfl) (fun hc => B3 6 rfl B6 rfl J4 (A0 rfl) rfl) ?_
   refine B4 rfl rfl (C2 rfl rfl rfl) (fun hc => B1 0 rfl (B0 rfl hc) rfl L0 rfl) ?_
   refine B4 rfl rfl (C2 rfl rfl rfl) (fun hc => M2 rfl (B0 rfl hc)) ?_
   refine A1 rfl rfl rfl (I6 rfl (A0 rfl) (G4 rfl)) ?_
   refine B9 rfl rfl rfl rfl rfl ?_
   refine A4 ?_
   refine C8 ?_
   exact H9 rfl (C5 rfl (by first | (exfalso; omega) | exact congrArg AV.bool (by unfold l4Good; rw [ho]; first | rfl | (unfold l4G1 l4G2 l4G4; simp [*]))))
  ·intro h23
   have k23 := L2 h23; try simp only [A6] at k23
   refine A3 (A3 (A2 ?_))
   refine A1 rfl rfl rfl (M9 rfl (A0 rfl) C4) ?_
   refine B9 rfl rfl rfl rfl rfl ?_
   refine A4 ?_
   refine C7 (A0 rfl) ?_ ?_
   ·intro h69
    have k69 := L3 h69; try simp only [A6] at k69
    refine D2 ?_
    refine C7 (A0 rfl) ?_ ?_
    ·intro h69
     have k69 := L3 h69; try simp only [A6] at k69
     refine A3 (A2 ?_)
     refine A1 rfl rfl rfl (B3 1 rfl B6 rfl C0 (A0 rfl) rfl) ?_
     refine A1 rfl rfl rfl (B1 0 rfl (A0 rfl) rfl D0 rfl) ?_
     refine A1 rfl rfl rfl (E5 rfl Tryz.call137 rfl (a8 _ _ _) (A9 (A0 rfl) (A9 C4 (A9 C4 D1)))) ?_
     refine A5 rfl rfl rfl rfl rfl ?_
     refine B4 rfl rfl (C2 rfl rfl rfl) (fun hc => B3 6 rfl B6 rfl J4 (A0 rfl) rfl) ?_
     refine B4 rfl rfl (C2 rfl rfl rfl) (fun hc => B1 0 rfl (B0 rfl hc) rfl L0 rfl) ?_
     refine B4 rfl rfl (C2 rfl rfl rfl) (fun hc => C6 rfl (B0 rfl hc)) ?_
     refine B4 rfl rfl (E8 rfl rfl rfl) (fun hc => B3 2 rfl B6 rfl C0 (A0 rfl) rfl) ?_
     refine B4 rfl rfl (E8 rfl rfl rfl) (fun hc => B1 0 rfl (B0 rfl hc) rfl D0 rfl) ?_
     refine B4 rfl rfl (E8 rfl rfl rfl) (fun hc => E5 rfl Tryz.call147 rfl (m1 _) (A9 (B0 rfl hc) D1)) ?_
     refine B4 rfl rfl (C2 rfl rfl rfl) (fun hc => I6 rfl (B0 rfl hc) (S0 rfl hc)) ?_
     refine B4 rfl rfl (C2 rfl rfl rfl) (fun hc => C6 rfl (B0 rfl hc)) ?_
     refine B4 rfl rfl (Q3 rfl rfl rfl) (fun hc => B3 6 rfl B6 rfl J4 (A0 rfl) rfl) ?_
     refine B4 rfl rfl (Q3 rfl rfl rfl) (fun hc => B1 0 rfl (B0 rfl hc) rfl L0 rfl) ?_
     refine B4 rfl rfl (Q3 rfl rfl rfl) (fun hc => M2 rfl (B0 rfl hc)) ?_
     refine B4 rfl rfl (Q3 rfl rfl rfl) (fun hc => C6 rfl (B0 rfl hc)) ?_
     refine B4 rfl rfl (E8 rfl rfl rfl) (fun hc => B3 2 rfl B6 rfl C0 (A0 rfl) rfl) ?_
     refine B4 rfl rfl (E8 rfl rfl rfl) (fun hc => B1 0 rfl (B0 rfl hc) rfl D0 rfl) ?_
     refine B4 rfl rfl (E8 rfl rfl rfl) (fun hc => M9 rfl (B0 rfl hc) C4) ?_
     refine B4 rfl rfl (Q3 rfl rfl rfl) (fun hc => I6 rfl (B0 rfl hc) (S0 rfl hc)) ?_
     refine B4 rfl rfl (C2 rfl rfl rfl) (fun hc => Q4 rfl (B0 rfl hc) (S0 rfl hc)) ?_
     refine A1 rfl rfl rfl (I6 rfl (A0 rfl) (G4 rfl)) ?_
     refine B9 rfl rfl rfl rfl rfl ?_
     refine A4 ?_
     refine C8 ?_
     exact H9 rfl (C5 rfl (by first | (exfalso; omega) | exact congrArg AV.bool (by unfold l4Good; rw [ho]; first | rfl | (unfold l4G1 l4G2 l4G4; simp [*]))))
    ·intro h69
     have k69 := L2 h69; try simp only [A6] at k69
     refine D2 (A3 (A2 ?_))
     refine A1 rfl rfl rfl (B3 0 rfl B6 rfl C0 (A0 rfl) rfl) ?_
     refine A1 rfl rfl rfl (B1 0 rfl (A0 rfl) rfl D0 rfl) ?_
     refine A1 rfl rfl rfl (M9 rfl (A0 rfl) C4) ?_
     refine A5 rfl rfl rfl rfl rfl ?_
     refine B4 rfl rfl (C2 rfl rfl rfl) (fun hc => B3 1 rfl B6 rfl C0 (A0 rfl) rfl) ?_
     refine B4 rfl rfl (C2 rfl rfl rfl) (fun hc => B1 0 rfl (B0 rfl hc) rfl D0 rfl) ?_
     refine B4 rfl rfl (C2 rfl rfl rfl) (fun hc => M9 rfl (B0 rfl hc) C4) ?_
     refine A1 rfl rfl rfl (I6 rfl (A0 rfl) (G4 rfl)) ?_
     refine A5 rfl rfl rfl rfl rfl ?_
     refine B4 rfl rfl (C2 rfl rfl rfl) (fun hc => B3 2 rfl B6 rfl C0 (A0 rfl) rfl) ?_
     refine B4 rfl rfl (C2 rfl rfl rfl) (fun hc => B1 0 rfl (B0 rfl hc) rfl D0 rfl) ?_
     refine B4 rfl rfl (C2 rfl rfl rfl) (fun hc => E5 rfl Tryz.call147 rfl (m1 _) (A9 (B0 rfl hc) D1)) ?_
     refine A1 rfl rfl rfl (I6 rfl (A0 rfl) (G4 rfl)) ?_
     refine A5 rfl rfl rfl rfl rfl ?_
     refine B4 rfl rfl (C2 rfl rfl rfl) (fun hc => B3 6 rfl B6 rfl J4 (A0 rfl) rfl) ?_
     refine B4 rfl rfl (C2 rfl rfl rfl) (fun hc => B1 0 rfl (B0 rfl hc) rfl L0 rfl) ?_
     refine B4 rfl rfl (C2 rfl rfl rfl) (fun hc => M2 rfl (B0 rfl hc)) ?_
     refine A1 rfl rfl rfl (I6 rfl (A0 rfl) (G4 rfl)) ?_
     refine B9 rfl rfl rfl rfl rfl ?_
     refine A4 ?_
     refine C8 ?_
     exact H9 rfl (C5 rfl (by first | (exfalso; omega) | exact congrArg AV.bool (by unfold l4Good; rw [ho]; first | rfl | (unfold l4G1 l4G2 l4G4; simp [*]))))
   ·intro h69
    have k69 := L2 h69; try simp only [A6] at k69
    refine A2 ?_
    refine A1 rfl rfl rfl (M9 rfl (A0 rfl) C4) ?_
    refine B9 rfl rfl rfl rfl rfl ?_
    refine A4 ?_
    refine C7 (A0 rfl) ?_ ?_
    ·intro h69
     have k69 := L3 h69; try simp only [A6] at k69
     refine A3 (A2 ?_)
     refine A1 rfl rfl rfl (B3 1 rfl B6 rfl C0 (A0 rfl) rfl) ?_
     refine A1 rfl rfl rfl (B1 0 rfl (A0 rfl) rfl D0 rfl) ?_
     refine A1 rfl rfl rfl (E5 rfl Tryz.call137 rfl (a8 _ _ _) (A9 (A0 rfl) (A9 C4 (A9 C4 D1)))) ?_
     refine A5 rfl rfl rfl rfl rfl ?_
     refine B4 rfl rfl (C2 rfl rfl rfl) (fun hc => B3 6 rfl B6 rfl J4 (A0 rfl) rfl) ?_
     refine B4 rfl rfl (C2 rfl rfl rfl) (fun hc => B1 0 rfl (B0 rfl hc) rfl L0 rfl) ?_
     refine B4 rfl rfl (C2 rfl rfl rfl) (fun hc => C6 rfl (B0 rfl hc)) ?_
     refine B4 rfl rfl (E8 rfl rfl rfl) (fun hc => B3 2 rfl B6 rfl C0 (A0 rfl) rfl) ?_
     refine B4 rfl rfl (E8 rfl rfl rfl) (fun hc => B1 0 rfl (B0 rfl hc) rfl D0 rfl) ?_
     refine B4 rfl rfl (E8 rfl rfl rfl) (fun hc => E5 rfl Tryz.call147 rfl (m1 _) (A9 (B0 rfl hc) D1)) ?_
     refine B4 rfl rfl (C2 rfl rfl rfl) (fun hc => I6 rfl (B0 rfl hc) (S0 rfl hc)) ?_
     refine B4 rfl rfl (C2 rfl rfl rfl) (fun hc => C6 rfl (B0 rfl hc)) ?_
     refine B4 rfl rfl (Q3 rfl rfl rfl) (fun hc => B3 6 rfl B6 rfl J4 (A0 rfl) rfl) ?_
     refine B4 rfl rfl (Q3 rfl rfl rfl) (fun hc => B1 0 rfl (B0 rfl hc) rfl L0 rfl) ?_
     refine B4 rfl rfl (Q3 rfl rfl rfl) (fun hc => M2 rfl (B0 rfl hc)) ?_
     refine B4 rfl rfl (Q3 rfl rfl rfl) (fun hc => C6 rfl (B0 rfl hc)) ?_
     refine B4 rfl rfl (E8 rfl rfl rfl) (fun hc => B3 2 rfl B6 rfl C0 (A0 rfl) rfl) ?_
     refine B4 rfl rfl (E8 rfl rfl rfl) (fun hc => B1 0 rfl (B0 rfl hc) rfl D0 rfl) ?_
     refine B4 rfl rfl (E8 rfl rfl rfl) (fun hc => M9 rfl (B0 rfl hc) C4) ?_
     refine B4 rfl rfl (Q3 rfl rfl rfl) (fun hc => I6 rfl (B0 rfl hc) (S0 rfl hc)) ?_
     refine B4 rfl rfl (C2 rfl rfl rfl) (fun hc => Q4 rfl (B0 rfl hc) (S0 rfl hc)) ?_
     refine A1 rfl rfl rfl (I6 rfl (A0 rfl) (G4 rfl)) ?_
     refine B9 rfl rfl rfl rfl rfl ?_
     refine A4 ?_
     refine C8 ?_
     exact H9 rfl (C5 rfl (by first | (exfalso; omega) | exact congrArg AV.bool (by unfold l4Good; rw [ho]; first | rfl | (unfold l4G1 l4G2 l4G4; simp [*]))))
    ·intro h69
     have k69 := L2 h69; try simp only [A6] at k69
     refine D2 (A3 (A2 ?_))
     refine A1 rfl rfl rfl (B3 0 rfl B6 rfl C0 (A0 rfl) rfl) ?_
     refine A1 rfl rfl rfl (B1 0 rfl (A0 rfl) rfl D0 rfl) ?_
     refine A1 rfl rfl rfl (M9 rfl (A0 rfl) C4) ?_
     refine A5 rfl rfl rfl rfl rfl ?_
     refine B4 rfl rfl (C2 rfl rfl rfl) (fun hc => B3 1 rfl B6 rfl C0 (A0 rfl) rfl) ?_
     refine B4 rfl rfl (C2 rfl rfl rfl) (fun hc => B1 0 rfl (B0 rfl hc) rfl D0 rfl) ?_
     refine B4 rfl rfl (C2 rfl rfl rfl) (fun hc => M9 rfl (B0 rfl hc) C4) ?_
     refine A1 rfl rfl rfl (I6 rfl (A0 rfl) (G4 rfl)) ?_
     refine A5 rfl rfl rfl rfl rfl ?_
     refine B4 rfl rfl (C2 rfl rfl rfl) (fun hc => B3 2 rfl B6 rfl C0 (A0 rfl) rfl) ?_
     refine B4 rfl rfl (C2 rfl rfl rfl) (fun hc => B1 0 rfl (B0 rfl hc) rfl D0 rfl) ?_
     refine B4 rfl rfl (C2 rfl rfl rfl) (fun hc => E5 rfl Tryz.call147 rfl (m1 _) (A9 (B0 rfl hc) D1)) ?_
     refine A1 rfl rfl rfl (I6 rfl (A0 rfl) (G4 rfl)) ?_
     refine A5 rfl rfl rfl rfl rfl ?_
     refine B4 rfl rfl (C2 rfl rfl rfl) (fun hc => B3 6 rfl B6 rfl J4 (A0 rfl) rfl) ?_
     refine B4 rfl rfl (C2 rfl rfl rfl) (fun hc => B1 0 rfl (B0 rfl hc) rfl L0 rfl) ?_
     refine B4 rfl rfl (C2 rfl rfl rfl) (fun hc => M2 rfl (B0 rfl hc)) ?_
     refine A1 rfl rfl rfl (I6 rfl (A0 rfl) (G4 rfl)) ?_
     refine B9 rfl rfl rfl rfl rfl ?_
     refine A4 ?_
     refine C8 ?_
     exact H9 rfl (C5 rfl (by first | (exfalso; omega) | exact congrArg AV.bool (by unfold l4Good; rw [ho]; first | rfl | (unfold l4G1 l4G2 l4G4; simp [*]))))
end Go.Proofs.YtnlhbdkcgaeimaaGreat

set_option linter.unusedVariables false
set_option linter.unusedSimpArgs false
namespace Go.AV
section
variable {P : Program} {G : Nat → Prop} {n : Nat} {own : List Own} {o : Oper}
end
end Go.AV

set_option linter.unusedVariables false
set_option linter.unusedSimpArgs false
namespace Go.AV
open Go.RowKit (Below)
section
variable {P : Program} {G : Nat → Prop} {n : Nat} {own : List Own} {o : Oper} {E : EnvF}
theorem w_tlen {t e : TypeId} {p : Operand} {v : Value} {sz lo : Nat} {es : List (List AV)} (i : Nat) (ho : o.op = .call { callee := .builtin .len, args := #[p], argTypes := #[t] }) (ht : P.underlying t = some (.slice e)) (hp : Ev E p (AV.is (tailV lo sz v))) (hi : own[i]? = some (.arr v e sz es)) : OpW P G n own o E (AV.int ((es.length - lo : Nat) : Int)) := Y9 fun w0 R0 R a w hcore he => by
  have h1 : a.eval p = _ := H4 hp (by simp [ho, Op.operands, Call.operands]) he
  obtain ⟨_, _, xs, hown, _⟩ := hcore.owned _ (G6 hi)
  obtain ⟨oa, c, rfl, _⟩ := AD2 hown
  have hel : P.elem t = e := by simp [Program.elem, ht]
  have h2 := fun (b : Option Addr) => run_len_slice (P := P) w t o.type b (es.length - lo) (c - lo) (by rw [hel]; exact ht)
  exact ⟨.int .i64 (es.length - lo : Nat), by simp only [execOp, ho, resolve, invoke, builtin, List.map_toArray, List.map_cons, List.map_nil, h1, tailV, sliced, h2, Sem.run_bind, Sem.run_pure, Result.andThen_ok, goInt], rfl⟩
theorem Am5 {t e : TypeId} {p q : Operand} {v : Value} {sz lo : Nat} {es : List (List AV)} {k : Int} (i : Nat) (ho : o.op = .indexAddr t p q) (ht : P.underlying t = some (.slice e)) (hsz : ∀ w, (sizeOf e).run P w = .ok sz w) (hp : Ev E p (AV.is (tailV lo sz v))) (hi : own[i]? = some (.arr v e sz es)) (hq : Ev E q (AV.int k)) (h0 : 0 ≤ k) (hk : lo + k < es.length) :
    OpW P G n own o E (AV.is (elemPtr v ((lo + k.toNat) * sz))) := Y9 fun w0 R0 R a w hcore he => by
  have h1 : a.eval p = _ := H4 hp (by simp [ho, Op.operands]) he
  have h2 : a.eval q = .int .i64 k := H4 hq (by simp [ho, Op.operands]) he
  obtain ⟨_, _, xs, hown, _⟩ := hcore.owned _ (G6 hi)
  rcases hown.2 with ⟨rfl, hz⟩ | ⟨g, cap, cur, rfl, _, _, hn, _⟩
  · rw [hz] at hk; simp at hk; omega
  · have hel : P.elem t = e := by simp [Program.elem, ht]
    have hne : ¬ cap = lo := by omega
    have hk2 : k < ((es.length - lo : Nat) : Int) := by omega
    have h3 := run_indexAt_slice (P := P) w t ((⟨g, 0, none⟩ : Addr).add (lo * sz)) (es.length - lo) (cap - lo) .i64 k (by rw [hel]; exact ht)
    rw [if_pos ⟨h0, hk2⟩, hel, hsz, Result.andThen_ok] at h3
    have e : (lo + k.toNat) * sz = lo * sz + k.toNat * sz := Nat.add_mul _ _ _
    refine ⟨.pointer (some (Addr.add ((⟨g, 0, none⟩ : Addr).add (lo * sz)) (k.toNat * sz))), by simp only [execOp, ho, h1, h2, tailV, sliced, if_neg hne, Option.map_some, h3, Sem.run_bind, Sem.run_pure, Result.andThen_ok], ?_⟩
    rw [e]
    show Value.pointer _ = Value.pointer (some (Addr.add ⟨g, 0, none⟩ (lo * sz + k.toNat * sz)))
    simp only [X6, Nat.zero_add]
def SrcE (own : List Own) (E : EnvF) (q : Operand) (sz : Nat) (fs : List (List AV)) : Prop :=
  ∀ (G : Nat → Prop) (w0 : World) (R0 R : RHeap) (a : Act) (w : World), Core G w0 R0 own R w → (∀ t, q = .tmp t → ∀ y, E t = some y → y.den R (a.tmps.getD t undef)) →
    (∀ f ∈ fs, f.length = sz) ∧ ∃ oa cap vs, a.eval q = .slice oa fs.length cap ∧ (fs ≠ [] → ∃ ad, oa = some ad ∧ (∀ j u, vs[j]? = some u → w.cell? (ad.add j) = some u) ∧ DenC R vs fs.flatten)
theorem AG4 {ops : Array Oper} {t e : TypeId} {p q : Operand} {sz by' : Nat} {inf : TypeInfo} {z : Value} {v : Value} {es fs : List (List AV)} (i : Nat) (ho : o.op = .call { callee := .builtin .append, args := #[p, q], argTypes := #[t, t] }) (ht : P.underlying t = some (.slice e)) (hinf : P.info? e = some inf) (hz : inf.zero = some z) (hsz : inf.size = sz) (hby : inf.bytes = by') (hzs : z.cells.size = sz) (hpos : Nat.ble 1 sz = true) (hpos2 : Nat.ble 1 by' = true) (hp : Ev E p (AV.is v)) (hq : SrcE own E q sz fs) (hi : own[i]? = some (.arr v e sz es))
    (hlen : (es.length + fs.length) * by' ≤ 140737488355328) : OpE P G n own ops o E (fun _ : Value => True) (fun v' => own.set i (.arr v' e sz (es ++ fs))) (fun v' => AV.is v') :=
  fun w0 R0 R a w h1 h3 h2 => by
    have e1 : a.eval p = v := AD4 (ops := ops) hp (by simp [ho, Op.operands, Call.operands]) h2
    obtain ⟨hu, oa, c, ns, e2, hcell⟩ := hq G w0 R0 R a w h1 (fun t ht y hy => h2 t (n2 (by subst ht; exact List.mem_filterMap.2 ⟨.tmp t, by simp [ho, Op.operands, Call.operands], rfl⟩)) y hy)
    obtain ⟨hR, hue, xs, hown, hdc⟩ := h1.owned _ (G6 hi)
    have hb1 := Nat.le_of_ble_eq_true hpos
    have hb2 := Nat.le_of_ble_eq_true hpos2
    have hsum : es.length + fs.length ≤ 140737488355328 := Nat.le_trans (Nat.le_mul_of_pos_right _ hb2) hlen
    have hufs : ∀ x ∈ es ++ fs, x.length = sz := fun x hx => by
      rcases List.mem_append.1 hx with h | h
      · exact hue x h
      · exact hu x h
    by_cases hfs : fs = []
    · subst hfs
      have hrun : ∃ v', (Builtin.append_ #[t, t] o.type #[v, a.eval q]).run P w = .ok v' w ∧ v' = v := by
        refine ⟨v, ?_, rfl⟩
        rw [e2]
        rcases hown.2 with ⟨rfl, hz0⟩ | ⟨g, cap, cur, rfl, _, _, hnc, _⟩
        · cases oa with
          | none => simp [Builtin.append_, run_underlying ht, sizeOf, typeInfo, hinf, Builtin.lenOf, Builtin.firstCells, hz0]
          | some ad => simp [Builtin.append_, run_underlying ht, sizeOf, typeInfo, hinf, Builtin.lenOf, Builtin.firstCells, loadCells, loadCellsFrom, hz0]
        · cases oa with
          | none => simp [Builtin.append_, run_underlying ht, sizeOf, typeInfo, hinf, Builtin.lenOf, Builtin.firstCells, hnc, storeCells]
          | some ad => simp [Builtin.append_, run_underlying ht, sizeOf, typeInfo, hinf, Builtin.lenOf, Builtin.firstCells, loadCells, loadCellsFrom, hnc, storeCells]
      obtain ⟨v', hr, rfl⟩ := hrun
      have hex : (execOp a.eval o).run P w = .ok (.value v') w := by
        simp only [execOp, ho, resolve, invoke, builtin, Sem.run_bind, Sem.run_pure, Result.andThen_ok, List.map_toArray, List.map_cons, List.map_nil, e1, hr]
      unfold Oper.wp
      rw [hex, Oper.upon_value]
      have hset : own.set i (.arr v' e sz (es ++ [])) = own := by
        rw [List.append_nil]
        obtain ⟨hlt, he⟩ := List.getElem?_eq_some_iff.1 hi
        rw [← he]; exact List.set_getElem_self hlt
      exact ⟨v', v', R, trivial, rfl, by show Core G w0 R0 (own.set i (.arr v' e sz (es ++ []))) R w; rw [hset]; exact h1, RSub.refl _, rfl⟩
    · obtain ⟨ad, rfl, hn2, hn3⟩ := hcell hfs
      have hn1 : ns.length = fs.flatten.length := hn3.1
      have hnl : ns.length = fs.length * sz := by rw [hn1, U6 hu]
      have hone : ∀ u ∈ ns, u.oneCell' = true := fun u hm => by
        obtain ⟨j, hj⟩ := List.getElem?_of_mem hm
        have hjl : j < fs.flatten.length := by rw [← hn1]; exact (List.getElem?_eq_some_iff.1 hj).1
        exact (hn3.2 j u _ hj (List.getElem?_eq_getElem hjl)).2
      obtain ⟨v', w', hr, hown', hgr, _, hblk⟩ := run_append_own_at (P := P) w 0 t o.type e inf z sz by' ht hinf hz hsz hby hzs hb1 v es.length xs hown ad fs.length c ns hnl hn2 hone (by unfold maxLen; omega) hlen (Nat.zero_le _)
      have hex : (execOp a.eval o).run P w = .ok (.value v') w' := by
        simp only [execOp, ho, resolve, invoke, builtin, Sem.run_bind, Sem.run_pure, Result.andThen_ok, List.map_toArray, List.map_cons, List.map_nil, e1, e2, hr]
      unfold Oper.wp
      rw [hex, Oper.upon_value]
      refine ⟨v', v', R, trivial, rfl, y7 h1 hi (fun b hb => ?_) ⟨fun b hb => ?_, hufs, xs ++ ns, ?_, ?_⟩ hgr, RSub.refl _, rfl⟩
      · simp only [Own.blk] at hb ⊢
        rcases hblk with h | h
        · exact .inl (by rw [← h]; exact hb)
        · rw [hb] at h; injection h with h; exact .inr h
      · rcases hblk with h | h
        · exact hR b (by rw [← h]; exact hb)
        · rw [hb] at h; injection h with h; subst h; exact s0 h1.rle
      · rw [J1]; exact hown'
      · rw [List.flatten_append]; exact Z8 hdc hn3

theorem lt_tailm {α : Type} {f : α → List AV} {l : List α} {v : Value} {e : TypeId} {sz lo k : Nat} (hm : Own.arr v e sz (l.map f) ∈ own) (hlo : lo = k) (hk : k ≤ l.length) : LendTo own (AV.is (tailV lo sz v)) (AV.list sz ((l.drop k).map f)) := fun G w0 R0 R w u hc hu => by
  subst hlo
  cases (show u = tailV lo sz v from hu)
  obtain ⟨_, _, xs, hown, _⟩ := hc.owned _ hm
  obtain ⟨oa, c, hv, hnc⟩ := AD2 hown
  have h1 := M6 hm J0 G w0 R0 R w v hc rfl
  obtain ⟨oa', c', e1, k1, k2, k3, k4⟩ := h1
  subst e1
  have h9 := AI8 (R := lend own w R) (lo := lo) (hi := (l.map f).length) (es := l.map f) (oa := oa') rfl k1 k2 k3 k4 (by rw [A6]; exact hk) (Nat.le_refl _)
  rw [List.take_length, ← List.map_drop] at h9
  exact h9
end
end Go.AV

set_option linter.unusedVariables false
set_option linter.unusedSimpArgs false
namespace Go.AV
open Go.Sort

theorem core_row {R : RHeap} {w w' : World} {v : Value} {g : Nat} {t : TypeId} {sz : Nat} {es es' : List (List AV)} {xs : List Value} (hb : v.ownBlock = some g) (hr : RLe R w) (hR : R g = none) (hg : w.grownBy w' (some g))
    (hown : w'.ownsRow 0 t sz v es'.length xs) (hd : DenC R xs es'.flatten) (hsz : ∀ e ∈ es', e.length = sz) :
    Core (blksOf [.arr v t sz es]) w R [.arr v t sz es'] R w' := by
  refine ⟨hg.os, hg.tape, hg.output, hg.size, fun k hk hG => hg.block k hk fun e => hG ⟨_, List.mem_singleton.2 rfl, ?_⟩, fun b o hbo => ?_, fun _ _ => rfl, fun o ho => ?_, fun o ho b e => ?_, ?_⟩
  · injection e with e; subst e; exact hb
  · have h1 := hr b o hbo
    have hlt : b < w.heap.size := (Array.getElem?_eq_some_iff.1 h1).1
    rw [hg.block b hlt fun e => by injection e with e; subst e; rw [hR] at hbo; cases hbo]; exact h1
  · rw [List.mem_singleton.1 ho]
    exact ⟨fun b e => by rw [hb] at e; injection e with e; subst e; exact hR, hsz, xs, hown, hd⟩
  · rw [List.mem_singleton.1 ho] at e
    exact .inr ⟨_, List.mem_singleton.2 rfl, e⟩
  · simp [Own.blk, hb]
theorem BA6 {R : RHeap} {w : World} {o : Own} (hr : RLe R w) (ho : Own.ok R w o) : Core (blksOf [o]) w R [o] R w :=
  ⟨rfl, rfl, rfl, Nat.le_refl _, fun _ _ _ => rfl, hr, fun _ _ => rfl, fun q hq => by rw [List.mem_singleton.1 hq]; exact ho, fun q hq b e => .inr ⟨q, hq, e⟩, by
    simp only [List.filterMap_cons, List.filterMap_nil]
    cases Own.blk o <;> simp⟩
theorem denC_is {R : RHeap} {vs ys : List Value} (h : DenC R vs (ys.map AV.is)) : vs = ys := by
  refine List.ext_getElem? fun i => ?_
  have hl := h.1
  rw [A6] at hl
  by_cases hi : i < ys.length
  · have h1 : vs[i]? = some vs[i] := List.getElem?_eq_getElem (by omega)
    have h2 : (ys.map AV.is)[i]? = some (AV.is ys[i]) := by rw [List.getElem?_map, List.getElem?_eq_getElem hi]; rfl
    have h3 := (h.2 i _ _ h1 h2).1
    rw [h1, List.getElem?_eq_getElem hi]
    exact congrArg some h3
  · rw [List.getElem?_eq_none (by omega), List.getElem?_eq_none (by omega)]
theorem denC_mk {R : RHeap} {ys : List Value} (h : ∀ y ∈ ys, y.oneCell' = true) : DenC R ys (ys.map AV.is) := by
  refine ⟨by rw [A6], fun i v x hv hx => ?_⟩
  rw [List.getElem?_map, hv] at hx
  injection hx with hx; subst hx
  exact ⟨rfl, h v (G6 hv)⟩
theorem AT7 {α : Type} (c : α → AV) (l : List α) : (l.map fun n => [c n]).flatten = l.map c := by
  induction l with
  | nil => rfl
  | cons x l ih => simp [ih]
section ordered
variable {P : Program} {f : FuncId} {t : TypeId} {α : Type} [Inhabited α]
theorem row_own1 (enc : α → Value) (h1c : ∀ x, (enc x).oneCell' = true) (srt : List α → List α) (hsl : ∀ l, (srt l).length = l.length)
    (h1 : ∀ (blk off cap : Nat) (zs : List α) (w : World), Holds enc w blk off zs.toArray → blk < w.heap.size → zs.length < 4611686018427387904 →
      Calls P f #[.slice (some ⟨blk, off, none⟩) zs.length cap] w fun e w' => e = .returned (.tuple #[]) ∧ ∃ n os, w' = grow (putRow enc (Sort.ahead w n) blk off (srt zs).toArray) os)
    (h0 : ∀ (p : Option Addr) (cap : Nat) (w : World), Calls P f #[.slice p 0 cap] w fun e w' => e = .returned (.tuple #[]) ∧ w' = w)
    (v : Value) (l : List α) (hl : l.length < 4611686018427387904) :
    GSpec P f [AV.is v] [.arr v t 1 (l.map fun n => [AV.is (enc n)])] (fun _ : Unit => True) (fun _ => [.arr v t 1 ((srt l).map fun n => [AV.is (enc n)])]) (fun _ => AV.tup []) := by
  intro R w vs hr hd hok hnd
  have hvs : vs = [v] := by
    obtain ⟨hlen, hval⟩ := hd
    cases vs with
    | nil => simp at hlen
    | cons a r =>
      cases r with
      | nil => have h9 := hval 0 a (AV.is v) rfl rfl; rw [show a = v from h9]
      | cons b r => simp at hlen
  subst hvs
  have ho := hok _ (List.mem_singleton.2 rfl)
  obtain ⟨hR, hsz, xs, hown, hden⟩ := ho
  have hxs : xs = l.map enc := by
    rw [AT7 (fun n => AV.is (enc n))] at hden
    have h9 : l.map (fun n => AV.is (enc n)) = (l.map enc).map AV.is := by simp
    rw [h9] at hden
    exact denC_is hden
  rw [A6] at hown
  rcases hown.2 with ⟨hv, hn⟩ | ⟨g, cap, cur, hv, _, hg, hnc, hcm, hcs, htk⟩
  · have hl0 : l = [] := List.length_eq_zero_iff.1 hn
    subst hv; subst hl0
    have hs0 : srt [] = [] := List.length_eq_zero_iff.1 (hsl [])
    refine (h0 none 0 w).mono ?_
    rintro e w' ⟨rfl, rfl⟩
    refine ⟨(), _, R, trivial, rfl, ⟨[], rfl, DenV.nil _⟩, ?_⟩
    rw [hs0]
    exact BA6 hr (hok _ (List.mem_singleton.2 rfl))
  · subst hv
    have hgl : g < w.heap.size := (Array.getElem?_eq_some_iff.1 hg).1
    rw [Nat.mul_one] at htk hcs
    have hH : Holds enc w g 0 l.toArray := fun j hj => by
      have hj' : j < l.length := by simpa using hj
      have h9 : cur.toList[j]? = some (enc l[j]) := by
        rw [← List.getElem?_take_of_lt hj', htk, hxs, List.getElem?_map, List.getElem?_eq_getElem hj']; rfl
      refine ⟨?_, by simp [World.frozen?, hg]⟩
      simp only [World.cell?, hg, Nat.zero_add]
      simp only [Option.isSome_none, Bool.false_eq_true, if_false]
      rw [← Array.getElem?_toList, h9]
      simp [hj']
    refine (h1 g 0 cap l w hH hgl hl).mono ?_
    rintro e w' ⟨rfl, n, os, rfl⟩
    refine ⟨(), _, R, trivial, rfl, ⟨[], rfl, DenV.nil _⟩, ?_⟩
    have hgb : w.grownBy (grow (putRow enc (Sort.ahead w n) g 0 (srt l).toArray) os) (some g) := by
      refine ⟨rfl, rfl, rfl, by simp, fun k hk hne => ?_⟩
      rw [heap_grow_old _ _ (by simpa using hk)]
      have h9 : g ≠ k := fun e => hne (by rw [e])
      simp [putRow, mapBlock, Sort.ahead, Array.getElem?_modify, h9]
    have hheap : (grow (putRow enc (Sort.ahead w n) g 0 (srt l).toArray) os).heap[g]? = some (.cells (putCells enc 0 (srt l).toArray cur) t (0, 0)) := by
      rw [heap_grow_old _ _ (by simpa using hgl)]
      simp [putRow, mapBlock, Sort.ahead, Array.getElem?_modify, hg, onCells]
    refine core_row (g := g) (xs := (srt l).map enc) rfl hr (hR g rfl) hgb ?_ ?_ ?_
    · rw [A6, hsl]
      refine ⟨by simp [hsl], .inr ⟨g, cap, _, rfl, Nat.zero_le _, hheap, hnc, hcm, by simp [putCells, hcs], ?_⟩⟩
      apply List.ext_getElem?
      intro j
      by_cases hj : j < l.length
      · rw [List.getElem?_take_of_lt (by omega), Array.getElem?_toList]
        have h8 : j < (srt l).length := by rw [hsl]; exact hj
        simp [putCells, h8, show j < cur.size by omega]
      · rw [List.getElem?_take_eq_none (by omega), List.getElem?_eq_none (by simp [hsl]; omega)]
    · rw [AT7 (fun n => AV.is (enc n))]
      have h9 : (srt l).map (fun n => AV.is (enc n)) = ((srt l).map enc).map AV.is := by simp
      rw [h9]
      exact denC_mk fun y hy => by obtain ⟨x, _, rfl⟩ := List.mem_map.1 hy; exact h1c x
    · intro e he; obtain ⟨x, _, rfl⟩ := List.mem_map.1 he; rfl
end ordered
end Go.AV

namespace Go.Proofs
open Go.Shelf
set_option linter.unusedVariables false
def Tryz.sortStrs_ren : Go.Shelf.Ren := ⟨fun | 190 => 246 | 125 => 281 | 258 => 280 | 128 => 306 | 129 => 307 | 302 => 297 | 303 => 298 | 304 => 299 | 305 => 300 | 306 => 301 | 307 => 302 | 308 => 303 | 309 => 304 | 310 => 305 | 333 => 316 | 329 => 317 | 330 => 318 | 334 => 319 | 335 => 320 | 336 => 282 | 344 => 324 | n => n, fun | 31 => 42 | 9 => 9 | 3 => 3 | 46 => 253 | 0 => 0 | 51 => 293 | 53 => 125 | 4 => 4 | 183 => 287 | 182 => 286 | 131 => 60 | 5 => 5 | 218 => 299 | 222 => 303 | 228 => 307 | 229 => 308 | n => n, fun | n => n⟩
theorem Tryz.sortStrs : Go.Proofs.Lays.n190 Tryz.prog Tryz.sortStrs_ren := {
  mixed := by kernel_rfl
  f125 := Tryz.func281.trans (congrArg some (by kernel_rfl))
  f128 := Tryz.func306.trans (congrArg some (by kernel_rfl))
  f129 := Tryz.func307.trans (congrArg some (by kernel_rfl))
  f190 := Tryz.func246.trans (congrArg some (by kernel_rfl))
  f258 := Tryz.func280.trans (congrArg some (by kernel_rfl))
  f302 := Tryz.func297.trans (congrArg some (by kernel_rfl))
  f303 := Tryz.func298.trans (congrArg some (by kernel_rfl))
  f304 := Tryz.func299.trans (congrArg some (by kernel_rfl))
  f305 := Tryz.func300.trans (congrArg some (by kernel_rfl))
  f306 := Tryz.func301.trans (congrArg some (by kernel_rfl))
  f307 := Tryz.func302.trans (congrArg some (by kernel_rfl))
  f308 := Tryz.func303.trans (congrArg some (by kernel_rfl))
  f309 := Tryz.func304.trans (congrArg some (by kernel_rfl))
  f310 := Tryz.func305.trans (congrArg some (by kernel_rfl))
  f329 := Tryz.func317.trans (congrArg some (by kernel_rfl))
  f330 := Tryz.func318.trans (congrArg some (by kernel_rfl))
  f333 := Tryz.func316.trans (congrArg some (by kernel_rfl))
  f334 := Tryz.func319.trans (congrArg some (by kernel_rfl))
  f335 := Tryz.func320.trans (congrArg some (by kernel_rfl))
  f336 := Tryz.func282.trans (congrArg some (by kernel_rfl))
  f344 := Tryz.func324.trans (congrArg some (by kernel_rfl))
  t0 := Tryz.underlying0
  a0 := Tryz.isAgg0
  z0 := Tryz.sizeOf0
  v0 := Tryz.zeroValue0
  t3 := Q6
  a3 := D0
  z3 := C0
  v3 := Tryz.zeroValue3
  t4 := T4
  a4 := L0
  z4 := J4
  v4 := Tryz.zeroValue4
  t5 := Tryz.underlying5
  a5 := Tryz.isAgg5
  z5 := Tryz.sizeOf5
  v5 := Tryz.zeroValue5
  t9 := N4
  a9 := H1
  z9 := F5
  v9 := Tryz.zeroValue9
  t31 := E4
  a31 := N9
  z31 := L7
  v31 := Tryz.zeroValue42
  t46 := Tryz.underlying253
  a46 := Tryz.isAgg253
  z46 := Tryz.sizeOf253
  v46 := Tryz.zeroValue253
  t51 := Tryz.underlying293
  a51 := Tryz.isAgg293
  z51 := Tryz.sizeOf293
  v51 := Tryz.zeroValue293
  t53 := Tryz.underlying125
  a53 := Tryz.isAgg125
  z53 := W6
  v53 := Tryz.zeroValue125
  t131 := Tryz.underlying60
  a131 := Tryz.isAgg60
  z131 := Tryz.sizeOf60
  v131 := Tryz.zeroValue60
  t182 := Tryz.underlying286
  a182 := Tryz.isAgg286
  z182 := Tryz.sizeOf286
  v182 := Tryz.zeroValue286
  t183 := Tryz.underlying287
  a183 := Tryz.isAgg287
  z183 := Tryz.sizeOf287
  v183 := Tryz.zeroValue287
  t218 := Tryz.underlying299
  a218 := Tryz.isAgg299
  z218 := Tryz.sizeOf299
  v218 := Tryz.zeroValue299
  t222 := Tryz.underlying303
  a222 := Tryz.isAgg303
  z222 := Tryz.sizeOf303
  v222 := Tryz.zeroValue303
  t228 := Tryz.underlying307
  a228 := Tryz.isAgg307
  z228 := Tryz.sizeOf307
  v228 := Tryz.zeroValue307
  t229 := Tryz.underlying308
  a229 := Tryz.isAgg308
  z229 := Tryz.sizeOf308
  v229 := Tryz.zeroValue308 }
end Go.Proofs

set_option linter.unusedVariables false
set_option linter.unusedSimpArgs false
set_option maxRecDepth 100000
set_option maxHeartbeats 1000000
namespace Go.Proofs.YtnlhbdkcgaeimaaGreat
open Go Go.AV Go.M
attribute [local irreducible] OpW OpA OpS AWP FSpec ESpec GSpec OpE RetOk RetOkG RvDen Le Ev GuardIs SrcIs Int.tmod Int.tdiv IntKind.wrap
theorem Ag2 (x y : TWrite) : (x.Key == y.Key && (x.Val == y.Val && (x.Gone == y.Gone && true))) = decide (x = y) := by
  cases x; cases y
  rw [Bool.eq_iff_iff]
  simp
theorem Ar1 (a b : List Str) : FSpec Tryz.prog 179 [strs a, strs b] (AV.bool (decide (a = b))) := by
 refine E7 Tryz.func179 rfl Tryz.ntmps179 rfl ?_
 refine T1 (t := 0) rfl fun hl => ?_
 try simp only [A6] at hl
 refine T1 (t := 1) rfl fun hl2 => ?_
 try simp only [A6] at hl2
 refine A3 (A2 ?_)
 refine A1 rfl rfl rfl (C3 rfl F4) ?_
 refine A4 (A3 (A3 (A2 ?_)))
 refine A5 rfl rfl rfl rfl rfl ?_
 refine A1 rfl rfl rfl (G9 rfl E4 (A0 rfl)) ?_
 refine A5 rfl rfl rfl rfl rfl ?_
 refine A1 rfl rfl rfl (G9 rfl E4 (A0 rfl)) ?_
 refine A1 rfl rfl rfl (g8 rfl (A0 rfl) (A0 rfl)) ?_
 refine A4 ?_
 refine C7 (A0 rfl) ?_ ?_
 ·intro h10
  have k10 := i9 h10; try simp only [A6] at k10
  have hne : decide (a = b) = false := decide_eq_false fun e => by (subst e; omega)
  rw [hne]
  refine A3 (A2 ?_)
  refine A1 rfl rfl rfl (C3 rfl F4) ?_
  refine A4 ?_
  refine C8 ?_
  exact H9 rfl (C5 rfl (by rfl))
 ·intro h10
  have k10 := V5 h10; try simp only [A6] at k10
  refine D2 (A3 (A3 (A2 ?_)))
  refine A5 rfl rfl rfl rfl rfl ?_
  refine A1 rfl rfl rfl (G9 rfl E4 (A0 rfl)) ?_
  refine A1 rfl rfl rfl (C6 rfl C4) ?_
  refine A4 (D7 ?_)
  refine J9 [(0, _), (1, _), (12, _)] _ (fun (i : Nat) => i ≤ a.length ∧ a.take i = b.take i) (fun (i : Nat) => []) (fun (i : Nat) => [(13, AV.int i)]) (fun (i : Nat) => a.length - i) (0) ?_ (J8 ⟨rfl, rfl, rfl, rfl, trivial⟩) ?_
  ·exact ⟨Nat.zero_le _, rfl⟩
  intro i hinv
  refine A3 (A2 ?_)
  refine A1 rfl rfl rfl (K6 rfl (A0 rfl) (A0 rfl)) ?_
  refine A4 (A3 ?_)
  refine C7 (A0 rfl) ?_ ?_
  ·intro h14
   have k14 := of_decide_eq_true h14; try simp only [A6] at k14
   have hlt : i < a.length := by omega
   obtain ⟨x, hx⟩ := get_some hlt
   obtain ⟨y, hy⟩ := get_some (show i < b.length by omega)
   refine D2 (A3 (D7 (A3 (A2 ?_))))
   refine A5 rfl rfl rfl rfl rfl ?_
   refine B9 rfl rfl rfl rfl rfl ?_
   refine A4 (A3 ?_)
   refine K3 (by kernel_rfl) (by kernel_rfl) rfl ?_
   refine B5 rfl rfl (C6 rfl (A0 rfl)) ?_
   refine B5 rfl rfl (C6 rfl (A0 rfl)) ?_
   refine B5 rfl rfl (I7 rfl E4 F5 (A0 rfl) (A0 rfl) hx (by first | omega | (simp only [A6, A7, B2, B7, A8, szR] at *; omega))) ?_
   refine B5 rfl rfl (N6 rfl (A0 rfl) H1 rfl) ?_
   refine B5 rfl rfl (C6 rfl (A0 rfl)) ?_
   refine B5 rfl rfl (C6 rfl (A0 rfl)) ?_
   refine B5 rfl rfl (I7 rfl E4 F5 (A0 rfl) (A0 rfl) hy (by first | omega | (simp only [A6, A7, B2, B7, A8, szR] at *; omega))) ?_
   refine B5 rfl rfl (N6 rfl (A0 rfl) H1 rfl) ?_
   refine B5 rfl rfl (AM5 rfl (A0 rfl) (A0 rfl)) ?_
   refine O1 ?_
   refine C7 (A0 rfl) ?_ ?_
   ·intro h24
    have hne : decide (a = b) = false := decide_eq_false fun e => by (subst e; rw [hx] at hy; injection hy with hy; simp [hy] at h24)
    rw [hne]
    refine A3 (A2 ?_)
    refine A1 rfl rfl rfl (C3 rfl F4) ?_
    refine A4 ?_
    refine C8 ?_
    exact H9 rfl (C5 rfl (by rfl))
   ·intro h24
    refine D2 (A2 ?_)
    refine A1 rfl rfl rfl (G7 rfl (A0 rfl) C4 (by first | omega | (simp only [A6, A7, B2, B7, A8, szR] at *; omega))) ?_
    refine A5 rfl rfl rfl rfl rfl ?_
    refine A4 ?_
    refine L4 i (i + 1) ?_ ?_ (J8 ⟨rfl, rfl, rfl, rfl, trivial⟩)
    ·exact ⟨by omega, by rw [List.take_add_one, List.take_add_one, hinv.2, hx, hy]; congr 2; simpa using h24⟩
    ·omega
  ·intro h14
   have k14 := of_decide_eq_false h14; try simp only [A6] at k14
   have hyes : decide (a = b) = true := decide_eq_true (by have h9 := hinv.2; rw [List.take_of_length_le (by omega), List.take_of_length_le (by omega)] at h9; exact h9)
   rw [hyes]
   refine H3 ?_
   refine A3 (A2 ?_)
   refine A1 rfl rfl rfl (C3 rfl F4) ?_
   refine A4 ?_
   refine C8 ?_
   exact H9 rfl (C5 rfl (by rfl))
theorem Ar2 (a b : List TWrite) : FSpec Tryz.prog 180 [AV.list 3 (a.map TWrite.cs), AV.list 3 (b.map TWrite.cs)] (AV.bool (decide (a = b))) := by
 refine E7 Tryz.func180 rfl Tryz.ntmps180 rfl ?_
 refine T1 (t := 0) rfl fun hl => ?_
 try simp only [A6] at hl
 refine T1 (t := 1) rfl fun hl2 => ?_
 try simp only [A6] at hl2
 refine A3 (A2 ?_)
 refine A1 rfl rfl rfl (C3 rfl F4) ?_
 refine A4 (A3 (A3 (A2 ?_)))
 refine A5 rfl rfl rfl rfl rfl ?_
 refine A1 rfl rfl rfl (G9 rfl F3 (A0 rfl)) ?_
 refine A5 rfl rfl rfl rfl rfl ?_
 refine A1 rfl rfl rfl (G9 rfl F3 (A0 rfl)) ?_
 refine A1 rfl rfl rfl (g8 rfl (A0 rfl) (A0 rfl)) ?_
 refine A4 ?_
 refine C7 (A0 rfl) ?_ ?_
 ·intro h10
  have k10 := i9 h10; try simp only [A6] at k10
  have hne : decide (a = b) = false := decide_eq_false fun e => by (subst e; omega)
  rw [hne]
  refine A3 (A2 ?_)
  refine A1 rfl rfl rfl (C3 rfl F4) ?_
  refine A4 ?_
  refine C8 ?_
  exact H9 rfl (C5 rfl (by rfl))
 ·intro h10
  have k10 := V5 h10; try simp only [A6] at k10
  refine D2 (A3 (A3 (A2 ?_)))
  refine A5 rfl rfl rfl rfl rfl ?_
  refine A1 rfl rfl rfl (G9 rfl F3 (A0 rfl)) ?_
  refine A1 rfl rfl rfl (C6 rfl C4) ?_
  refine A4 (D7 ?_)
  refine J9 [(0, _), (1, _), (12, _)] _ (fun (i : Nat) => i ≤ a.length ∧ a.take i = b.take i) (fun (i : Nat) => []) (fun (i : Nat) => [(13, AV.int i)]) (fun (i : Nat) => a.length - i) (0) ?_ (J8 ⟨rfl, rfl, rfl, rfl, trivial⟩) ?_
  ·exact ⟨Nat.zero_le _, rfl⟩
  intro i hinv
  refine A3 (A2 ?_)
  refine A1 rfl rfl rfl (K6 rfl (A0 rfl) (A0 rfl)) ?_
  refine A4 (A3 ?_)
  refine C7 (A0 rfl) ?_ ?_
  ·intro h14
   have k14 := of_decide_eq_true h14; try simp only [A6] at k14
   have hlt : i < a.length := by omega
   obtain ⟨x, hx⟩ := get_some hlt
   obtain ⟨y, hy⟩ := get_some (show i < b.length by omega)
   refine D2 (A3 (D7 (A3 (A2 ?_))))
   refine A5 rfl rfl rfl rfl rfl ?_
   refine B9 rfl rfl rfl rfl rfl ?_
   refine A4 (A3 ?_)
   refine K3 (by kernel_rfl) (by kernel_rfl) rfl ?_
   refine B5 rfl rfl (C6 rfl (A0 rfl)) ?_
   refine B5 rfl rfl (C6 rfl (A0 rfl)) ?_
   refine B5 rfl rfl (I7 rfl F3 H7 (A0 rfl) (A0 rfl) hx (by first | omega | (simp only [A6, A7, B2, B7, A8, szR] at *; omega))) ?_
   refine B5 rfl rfl (K4 rfl (A0 rfl) S5 H7) ?_
   refine B5 rfl rfl (C6 rfl (A0 rfl)) ?_
   refine B5 rfl rfl (C6 rfl (A0 rfl)) ?_
   refine B5 rfl rfl (I7 rfl F3 H7 (A0 rfl) (A0 rfl) hy (by first | omega | (simp only [A6, A7, B2, B7, A8, szR] at *; omega))) ?_
   refine B5 rfl rfl (K4 rfl (A0 rfl) S5 H7) ?_
   refine B5 rfl rfl (AX5 rfl I1 (by kernel_rfl) (by kernel_rfl) (A0 rfl) (A0 rfl) (c4 (by kernel_rfl) H1 rfl rfl (AH0 N4) (c4 (by kernel_rfl) H1 rfl rfl (AH0 N4) (c4 (by kernel_rfl) L0 rfl rfl (AI7 T4) AQ8)))) ?_
   refine O1 ?_
   refine C7 (A0 rfl) ?_ ?_
   ·intro h24
    have hne : decide (a = b) = false := decide_eq_false fun e => by (subst e; rw [hx] at hy; injection hy with hy; rw [Ag2] at h24; simp [hy] at h24)
    rw [hne]
    refine A3 (A2 ?_)
    refine A1 rfl rfl rfl (C3 rfl F4) ?_
    refine A4 ?_
    refine C8 ?_
    exact H9 rfl (C5 rfl (by rfl))
   ·intro h24
    refine D2 (A2 ?_)
    refine A1 rfl rfl rfl (G7 rfl (A0 rfl) C4 (by first | omega | (simp only [A6, A7, B2, B7, A8, szR] at *; omega))) ?_
    refine A5 rfl rfl rfl rfl rfl ?_
    refine A4 ?_
    refine L4 i (i + 1) ?_ ?_ (J8 ⟨rfl, rfl, rfl, rfl, trivial⟩)
    ·exact ⟨by omega, by rw [List.take_add_one, List.take_add_one, hinv.2, hx, hy]; congr 2; rw [Ag2] at h24; simpa using h24⟩
    ·omega
  ·intro h14
   have k14 := of_decide_eq_false h14; try simp only [A6] at k14
   have hyes : decide (a = b) = true := decide_eq_true (by have h9 := hinv.2; rw [List.take_of_length_le (by omega), List.take_of_length_le (by omega)] at h9; exact h9)
   rw [hyes]
   refine H3 ?_
   refine A3 (A2 ?_)
   refine A1 rfl rfl rfl (C3 rfl F4) ?_
   refine A4 ?_
   refine C8 ?_
   exact H9 rfl (C5 rfl (by rfl))
theorem same_rec (a b : TRec) : ((((((a.Kind == b.Kind && a.Txn == b.Txn) && a.Time == b.Time) && a.Lead == b.Lead) && a.Yes == b.Yes) && decide (a.Reads = b.Reads)) && decide (a.Writes = b.Writes)) = decide (a = b) := by
  cases a; cases b
  rw [Bool.eq_iff_iff]
  simp only [Bool.and_eq_true, beq_iff_eq, decide_eq_true_eq, TRec.mk.injEq]
  constructor
  · rintro ⟨⟨⟨⟨⟨⟨h1, h2⟩, h3⟩, h4⟩, h5⟩, h6⟩, h7⟩; exact ⟨h1, h2, h3, h4, h6, h7, h5⟩
  · rintro ⟨h1, h2, h3, h4, h6, h7, h5⟩; exact ⟨⟨⟨⟨⟨⟨h1, h2⟩, h3⟩, h4⟩, h5⟩, h6⟩, h7⟩
theorem Ah7 (a b : TRec) : FSpec Tryz.prog 88 [AV.agg a.cs, AV.agg b.cs] (AV.bool (decide (a = b))) := by
 refine E7 Tryz.func88 rfl Tryz.ntmps88 rfl ?_
 refine A3 (A2 ?_)
 refine M3 rfl rfl rfl rfl (A0 rfl) ?_
 intro b2
 refine M3 rfl rfl rfl rfl (A0 rfl) ?_
 intro b3
 refine A1 rfl rfl rfl (C3 rfl F4) ?_
 refine A4 (A3 (A2 ?_))
 refine A1 rfl rfl rfl (B3 0 rfl B6 rfl C0 (A0 rfl) rfl) ?_
 refine A1 rfl rfl rfl (B1 1 rfl (A0 rfl) rfl D0 rfl) ?_
 refine A1 rfl rfl rfl (B3 0 rfl B6 rfl C0 (A0 rfl) rfl) ?_
 refine A1 rfl rfl rfl (B1 0 rfl (A0 rfl) rfl D0 rfl) ?_
 refine A1 rfl rfl rfl (M9 rfl (A0 rfl) (A0 rfl)) ?_
 refine A5 rfl rfl rfl rfl rfl ?_
 refine B4 rfl rfl (C2 rfl rfl rfl) (fun hc => B3 1 rfl B6 rfl C0 (A0 rfl) rfl) ?_
 refine B4 rfl rfl (C2 rfl rfl rfl) (fun hc => B1 1 rfl (B0 rfl hc) rfl D0 rfl) ?_
 refine B4 rfl rfl (C2 rfl rfl rfl) (fun hc => B3 1 rfl B6 rfl C0 (A0 rfl) rfl) ?_
 refine B4 rfl rfl (C2 rfl rfl rfl) (fun hc => B1 0 rfl (B0 rfl hc) rfl D0 rfl) ?_
 refine B4 rfl rfl (C2 rfl rfl rfl) (fun hc => M9 rfl (B0 rfl hc) (B0 rfl hc)) ?_
 refine A1 rfl rfl rfl (I6 rfl (A0 rfl) (G4 rfl)) ?_
 refine A5 rfl rfl rfl rfl rfl ?_
 refine B4 rfl rfl (C2 rfl rfl rfl) (fun hc => B3 2 rfl B6 rfl C0 (A0 rfl) rfl) ?_
 refine B4 rfl rfl (C2 rfl rfl rfl) (fun hc => B1 1 rfl (B0 rfl hc) rfl D0 rfl) ?_
 refine B4 rfl rfl (C2 rfl rfl rfl) (fun hc => B3 2 rfl B6 rfl C0 (A0 rfl) rfl) ?_
 refine B4 rfl rfl (C2 rfl rfl rfl) (fun hc => B1 0 rfl (B0 rfl hc) rfl D0 rfl) ?_
 refine B4 rfl rfl (C2 rfl rfl rfl) (fun hc => M9 rfl (B0 rfl hc) (B0 rfl hc)) ?_
 refine A1 rfl rfl rfl (I6 rfl (A0 rfl) (G4 rfl)) ?_
 refine A5 rfl rfl rfl rfl rfl ?_
 refine B4 rfl rfl (C2 rfl rfl rfl) (fun hc => B3 3 rfl B6 rfl C0 (A0 rfl) rfl) ?_
 refine B4 rfl rfl (C2 rfl rfl rfl) (fun hc => B1 1 rfl (B0 rfl hc) rfl D0 rfl) ?_
 refine B4 rfl rfl (C2 rfl rfl rfl) (fun hc => B3 3 rfl B6 rfl C0 (A0 rfl) rfl) ?_
 refine B4 rfl rfl (C2 rfl rfl rfl) (fun hc => B1 0 rfl (B0 rfl hc) rfl D0 rfl) ?_
 refine B4 rfl rfl (C2 rfl rfl rfl) (fun hc => M9 rfl (B0 rfl hc) (B0 rfl hc)) ?_
 refine A1 rfl rfl rfl (I6 rfl (A0 rfl) (G4 rfl)) ?_
 refine A5 rfl rfl rfl rfl rfl ?_
 refine B4 rfl rfl (C2 rfl rfl rfl) (fun hc => B3 6 rfl B6 rfl J4 (A0 rfl) rfl) ?_
 refine B4 rfl rfl (C2 rfl rfl rfl) (fun hc => B1 1 rfl (B0 rfl hc) rfl L0 rfl) ?_
 refine B4 rfl rfl (C2 rfl rfl rfl) (fun hc => B3 6 rfl B6 rfl J4 (A0 rfl) rfl) ?_
 refine B4 rfl rfl (C2 rfl rfl rfl) (fun hc => B1 0 rfl (B0 rfl hc) rfl L0 rfl) ?_
 refine B4 rfl rfl (C2 rfl rfl rfl) (fun hc => AM4 rfl T4 (B0 rfl hc) (B0 rfl hc)) ?_
 refine A1 rfl rfl rfl (I6 rfl (A0 rfl) (G4 rfl)) ?_
 refine A5 rfl rfl rfl rfl rfl ?_
 refine B4 rfl rfl (C2 rfl rfl rfl) (fun hc => B3 4 rfl B6 rfl L7 (A0 rfl) rfl) ?_
 refine B4 rfl rfl (C2 rfl rfl rfl) (fun hc => B1 1 rfl (B0 rfl hc) rfl N9 rfl) ?_
 refine B4 rfl rfl (C2 rfl rfl rfl) (fun hc => B3 4 rfl B6 rfl L7 (A0 rfl) rfl) ?_
 refine B4 rfl rfl (C2 rfl rfl rfl) (fun hc => B1 0 rfl (B0 rfl hc) rfl N9 rfl) ?_
 refine B4 rfl rfl (C2 rfl rfl rfl) (fun hc => E5 rfl Tryz.call179 rfl (Ar1 a.Reads b.Reads) (A9 (B0 rfl hc) (A9 (B0 rfl hc) D1))) ?_
 refine A1 rfl rfl rfl (I6 rfl (A0 rfl) (G4 rfl)) ?_
 refine A5 rfl rfl rfl rfl rfl ?_
 refine B4 rfl rfl (C2 rfl rfl rfl) (fun hc => B3 5 rfl B6 rfl K2 (A0 rfl) rfl) ?_
 refine B4 rfl rfl (C2 rfl rfl rfl) (fun hc => B1 1 rfl (B0 rfl hc) rfl L8 rfl) ?_
 refine B4 rfl rfl (C2 rfl rfl rfl) (fun hc => B3 5 rfl B6 rfl K2 (A0 rfl) rfl) ?_
 refine B4 rfl rfl (C2 rfl rfl rfl) (fun hc => B1 0 rfl (B0 rfl hc) rfl L8 rfl) ?_
 refine B4 rfl rfl (C2 rfl rfl rfl) (fun hc => E5 rfl Tryz.call180 rfl (Ar2 a.Writes b.Writes) (A9 (B0 rfl hc) (A9 (B0 rfl hc) D1))) ?_
 refine A1 rfl rfl rfl (I6 rfl (A0 rfl) (G4 rfl)) ?_
 refine B9 rfl rfl rfl rfl rfl ?_
 refine A4 ?_
 refine C8 ?_
 exact H9 rfl (C5 rfl (by exact congrArg AV.bool (same_rec a b)))
theorem Am6 (v : Value) (l : List Str) (hl : l.length < 4611686018427387904) : GSpec Tryz.prog 246 [AV.is v] [.arr v 9 1 (l.map fun s => [AV.str s])] (fun _ : Unit => True) (fun _ => [.arr v 9 1 ((sortS l).map fun s => [AV.str s])]) (fun _ => AV.tup []) :=
  row_own1 Go.Proofs.encStr (fun _ => rfl) sortS AN7
    (fun blk off cap zs w h1 h2 h3 => Any.slices_Sort_string Tryz.sortStrs blk off cap zs w h1 h2 h3) (fun p cap w => Any.slices_Sort_string_none Tryz.sortStrs p cap w) v l hl
end Go.Proofs.YtnlhbdkcgaeimaaGreat

set_option linter.unusedVariables false
set_option linter.unusedSimpArgs false
set_option maxRecDepth 100000
set_option maxHeartbeats 1000000
namespace Go.Proofs.YtnlhbdkcgaeimaaGreat
open Go Go.AV Go.M
attribute [local irreducible] OpW OpA OpS AWP FSpec ESpec GSpec OpE RetOk RetOkG RvDen Le Ev GuardIs SrcIs Int.tmod Int.tdiv IntKind.wrap
theorem AD6 {l : List Str} {i j : Nat} {s : Str} (h : l[i]? = some s) (hj : j = i * 1) : ((l.map fun s => [AV.str s]).flatten)[j]? = some (AV.str s) := by
  rw [hj, Nat.mul_one]
  have e : (l.map fun s => [AV.str s]).flatten = l.map AV.str := by
    clear h
    induction l with
    | nil => rfl
    | cons x l ih => simp [ih]
  rw [e, List.getElem?_map, h]; rfl
theorem Ac2 (v : Value) (l : List Str) (hl : l.length ≤ 4194304) : GSpec Tryz.prog 247 [AV.is v] [.arr v 9 1 (l.map fun s => [AV.str s])]
   (fun _ : Value => True) (fun v => [.arr v 9 1 ((cmpL l).map fun s => [AV.str s])]) (fun v => AV.is v) := by
 refine H5 Tryz.func247 rfl Tryz.ntmps247 rfl ?_
 refine A3 (A2 ?_)
 refine A1 rfl rfl rfl (C3 rfl K5) ?_
 refine A4 (A3 (A3 (A2 ?_)))
 refine A5 rfl rfl rfl rfl rfl ?_
 refine A1 rfl rfl rfl (U9 0 rfl E4 (A0 rfl) rfl) ?_
 refine A1 rfl rfl rfl (K6 rfl (A0 rfl) C4) ?_
 refine A4 ?_
 refine C7 (A0 rfl) ?_ ?_
 ·intro h8
  have k8 := of_decide_eq_true h8; try simp only [A6] at k8
  have hall : cmpL l = l := by (unfold cmpL; rw [AE5 (Nat.le_refl _) (fun i h1 h2 => by omega), List.take_length])
  refine A3 (A2 ?_)
  refine A5 rfl rfl rfl rfl rfl ?_
  refine B9 rfl rfl rfl rfl rfl ?_
  refine A4 ?_
  refine C8 ?_
  exact K1 [0] v (trivial) rfl (by first | exact congrArg (fun z => [Own.arr _ 9 1 (List.map (fun s => [AV.str s]) z)]) hall | (refine congrArg (fun z => [Own.arr _ 9 1 z]) ?_; exact (Ab3 hinv.2.2.2.2.1 hge (by omega)).symm)) (N1 rfl (C5 rfl (by first | rfl | (refine congrArg AV.bool ?_; simp_all; done))))
 ·intro h8
  have k8 := of_decide_eq_false h8; try simp only [A6] at k8
  refine D2 (A3 (A3 (A2 ?_)))
  refine A1 rfl rfl rfl (C3 rfl C4) ?_
  refine A4 (D7 ?_)
  refine J9 [(0, _)] _ (fun (k : Nat) => (1 ≤ k ∧ k ≤ l.length) ∧ ∀ i, 1 ≤ i → i < k → l[i]? ≠ l[i - 1]?) (fun (k : Nat) => []) (fun (k : Nat) => [(3, AV.int k)]) (fun (k : Nat) => l.length - k) (1) ?_ (J8 ⟨rfl, rfl, trivial⟩) ?_
  ·exact ⟨⟨Nat.le_refl _, by omega⟩, fun i h1 h2 => by omega⟩
  intro k hinv
  refine A3 (A3 (A2 ?_))
  refine A5 rfl rfl rfl rfl rfl ?_
  refine A5 rfl rfl rfl rfl rfl ?_
  refine A1 rfl rfl rfl (U9 0 rfl E4 (A0 rfl) rfl) ?_
  refine A1 rfl rfl rfl (K6 rfl (A0 rfl) (A0 rfl)) ?_
  refine A4 ?_
  refine C7 (A0 rfl) ?_ ?_
  ·intro h13
   have k13 := of_decide_eq_true h13; try simp only [A6] at k13
   have hlt : k < l.length := by omega
   obtain ⟨x, hx⟩ := get_some hlt
   obtain ⟨y, hy⟩ := get_some (show k - 1 < l.length by omega)
   refine D2 (A3 (D7 (A3 ?_)))
   refine K3 (by kernel_rfl) (by kernel_rfl) rfl ?_
   refine B5 rfl rfl (C6 rfl (A0 rfl)) ?_
   refine B5 rfl rfl (C6 rfl (A0 rfl)) ?_
   refine B5 rfl rfl (U4 0 rfl E4 F5 (A0 rfl) rfl (A0 rfl) (by first | omega | (simp only [A6, A7, B2, B7, A8, szR] at *; omega)) (by first | omega | (simp only [A6, A7, B2, B7, A8, szR] at *; omega))) ?_
   refine B5 rfl rfl (p5 0 rfl (A0 rfl) rfl H1 (AD6 hx (by omega))) ?_
   refine B5 rfl rfl (C6 rfl (A0 rfl)) ?_
   refine B5 rfl rfl (C6 rfl (A0 rfl)) ?_
   refine B5 rfl rfl (Q0 rfl (A0 rfl) C4 (by first | omega | (simp only [A6, A7, B2, B7, A8, szR] at *; omega))) ?_
   refine B5 rfl rfl (U4 0 rfl E4 F5 (A0 rfl) rfl (A0 rfl) (by first | omega | (simp only [A6, A7, B2, B7, A8, szR] at *; omega)) (by first | omega | (simp only [A6, A7, B2, B7, A8, szR] at *; omega))) ?_
   refine B5 rfl rfl (p5 0 rfl (A0 rfl) rfl H1 (AD6 hy (by omega))) ?_
   refine B5 rfl rfl (y5 rfl (A0 rfl) (A0 rfl)) ?_
   refine O1 ?_
   refine C7 (A0 rfl) ?_ ?_
   ·intro h25
    have hxy : l[k]? = l[k - 1]? := by (rw [hx, hy]; have h9 := h25; simp at h9; rw [h9])
    have hinv0 := hinv
    refine A3 (A2 ?_)
    refine A5 rfl rfl rfl rfl rfl ?_
    refine A5 rfl rfl rfl rfl rfl ?_
    refine A1 rfl rfl rfl (AQ9 0 rfl E4 F5 (A0 rfl) rfl (A0 rfl) (by first | omega | (simp only [A6, A7, B2, B7, A8, szR] at *; omega)) (by first | omega | (simp only [A6, A7, B2, B7, A8, szR] at *; omega))) ?_
    refine B9 rfl rfl rfl rfl rfl ?_
    refine A4 (A3 (A3 (A2 ?_)))
    refine A1 rfl rfl rfl (C3 rfl C4) ?_
    refine A4 (D7 ?_)
    refine V0 [(0, _), (4, _), (10, _), (11, _), (12, _), (13, _), (16, _), (17, _), (18, _), (19, _), (20, _), (21, _), (22, _), (23, _), (24, _), (25, _), (26, _), (27, _), (28, _)] _ (fun (i : Nat) (j : Nat) (m : List Str) => 1 ≤ j ∧ k + j ≤ l.length ∧ i + 1 ≤ k + j ∧ m.length = l.length ∧ m.take i = cmpN l (k + j) ∧ m.drop (k + j - 1) = l.drop (k + j - 1)) (fun (i : Nat) (j : Nat) (m : List Str) => [.arr v 9 1 (m.map fun s => [AV.str s])]) (fun (i : Nat) (j : Nat) (m : List Str) => [(3, AV.int i), (5, AV.int j)]) (fun (i : Nat) (j : Nat) (m : List Str) => l.length - (k + j)) (k) (1) (l) ?_ (S7 (by rfl) ⟨rfl, rfl, rfl, rfl, rfl, rfl, rfl, rfl, rfl, rfl, rfl, rfl, rfl, rfl, rfl, rfl, rfl, rfl, rfl, rfl, rfl, trivial⟩) ?_
    ·exact ⟨Nat.le_refl _, by omega, by omega, rfl, by rw [Ae1 (by omega) hxy, AE5 (by omega) hinv0.2], rfl⟩
    intro i j m hinv
    refine A3 (A3 (A2 ?_))
    refine A5 rfl rfl rfl rfl rfl ?_
    refine A5 rfl rfl rfl rfl rfl ?_
    refine A1 rfl rfl rfl (w_tlen 0 rfl E4 (A0 rfl) rfl) ?_
    refine A1 rfl rfl rfl (K6 rfl (A0 rfl) (A0 rfl)) ?_
    refine A4 ?_
    refine C7 (A0 rfl) ?_ ?_
    ·intro h32
     have k32 := of_decide_eq_true h32; try simp only [A6] at k32
     have hm := hinv.2.2.2.1
     have hlt1 : k + j < l.length := by omega
     obtain ⟨x1, hx1⟩ := get_some hlt1
     obtain ⟨y1, hy1⟩ := get_some (show k + j - 1 < l.length by omega)
     have hmx := AN5 hinv.2.2.2.2.2 hx1 (by omega)
     have hmy := AN5 hinv.2.2.2.2.2 hy1 (by omega)
     refine D2 (A3 (D7 (A3 ?_)))
     refine K3 (by kernel_rfl) (by kernel_rfl) rfl ?_
     refine B5 rfl rfl (C6 rfl (A0 rfl)) ?_
     refine B5 rfl rfl (C6 rfl (A0 rfl)) ?_
     refine B5 rfl rfl (Am5 0 rfl E4 F5 (A0 rfl) rfl (A0 rfl) (by omega) (by simp only [A6]; omega)) ?_
     refine B5 rfl rfl (p5 0 rfl (A0 rfl) rfl H1 (AD6 hmx (by rw [show ((k : Int).toNat + (j : Int).toNat) = k + j by omega]))) ?_
     refine B5 rfl rfl (C6 rfl (A0 rfl)) ?_
     refine B5 rfl rfl (C6 rfl (A0 rfl)) ?_
     refine B5 rfl rfl (Q0 rfl (A0 rfl) C4 (by first | omega | (simp only [A6, A7, B2, B7, A8, szR] at *; omega))) ?_
     refine B5 rfl rfl (Am5 0 rfl E4 F5 (A0 rfl) rfl (A0 rfl) (by omega) (by simp only [A6]; omega)) ?_
     refine B5 rfl rfl (p5 0 rfl (A0 rfl) rfl H1 (AD6 hmy (by rw [show ((k : Int).toNat + ((j : Int) - 1).toNat) = k + j - 1 by omega]))) ?_
     refine B5 rfl rfl (AM5 rfl (A0 rfl) (A0 rfl)) ?_
     refine O1 ?_
     refine C7 (A0 rfl) ?_ ?_
     ·intro h44
      refine A3 (A2 ?_)
      refine A5 rfl rfl rfl rfl rfl ?_
      refine A5 rfl rfl rfl rfl rfl ?_
      refine A5 rfl rfl rfl rfl rfl ?_
      refine A5 rfl rfl rfl rfl rfl ?_
      refine A1 rfl rfl rfl (Am5 0 rfl E4 F5 (A0 rfl) rfl (A0 rfl) (by omega) (by simp only [A6]; omega)) ?_
      refine A1 rfl rfl rfl (p5 0 rfl (A0 rfl) rfl H1 (AD6 hmx (by rw [show ((k : Int).toNat + (j : Int).toNat) = k + j by omega]))) ?_
      refine A1 rfl rfl rfl (U4 0 rfl E4 F5 (A0 rfl) rfl (A0 rfl) (by omega) (by simp only [A6]; omega)) ?_
      refine Ay8 0 rfl rfl rfl (A0 rfl) (A0 rfl) (P6 _) rfl F5 rfl (by simp only [A6, Int.toNat_natCast]; omega) ?_
      refine A4 (A2 ?_)
      refine A5 rfl rfl rfl rfl rfl ?_
      refine A1 rfl rfl rfl (G7 rfl (A0 rfl) C4 (by first | omega | (simp only [A6, A7, B2, B7, A8, szR] at *; omega))) ?_
      refine B9 rfl rfl rfl rfl rfl ?_
      refine A4 (A2 ?_)
      refine A5 rfl rfl rfl rfl rfl ?_
      refine A1 rfl rfl rfl (G7 rfl (A0 rfl) C4 (by first | omega | (simp only [A6, A7, B2, B7, A8, szR] at *; omega))) ?_
      refine B9 rfl rfl rfl rfl rfl ?_
      refine A4 ?_
      refine T5 i j m (i + 1) (j + 1) (m.set i x1) ?_ ?_ (S7 (by first | exact congrArg (fun z => [Own.arr v 9 1 z]) (List.map_set).symm | rfl) ⟨rfl, rfl, rfl, rfl, rfl, rfl, rfl, rfl, rfl, rfl, rfl, rfl, rfl, rfl, rfl, rfl, rfl, rfl, rfl, rfl, rfl, trivial⟩)
      ·exact cmp_keep hinv (by omega) hx1 hy1 (by simpa using h44)
      ·omega
     ·intro h44
      refine D2 (A2 ?_)
      refine A5 rfl rfl rfl rfl rfl ?_
      refine A1 rfl rfl rfl (G7 rfl (A0 rfl) C4 (by first | omega | (simp only [A6, A7, B2, B7, A8, szR] at *; omega))) ?_
      refine B9 rfl rfl rfl rfl rfl ?_
      refine A4 ?_
      refine T5 i j m (i) (j + 1) (m) ?_ ?_ (S7 (by first | exact congrArg (fun z => [Own.arr v 9 1 z]) (List.map_set).symm | rfl) ⟨rfl, rfl, rfl, rfl, rfl, rfl, rfl, rfl, rfl, rfl, rfl, rfl, rfl, rfl, rfl, rfl, rfl, rfl, rfl, rfl, rfl, trivial⟩)
      ·exact cmp_skip hinv (by omega) hx1 hy1 (by simpa using h44)
      ·omega
    ·intro h32
     have k32 := of_decide_eq_false h32; try simp only [A6] at k32
     have hm := hinv.2.2.2.1
     have hge : k + j = l.length := by omega
     refine H3 ?_
     refine A3 (A2 ?_)
     refine A5 rfl rfl rfl rfl rfl ?_
     refine A5 rfl rfl rfl rfl rfl ?_
     refine A1 rfl rfl rfl (AQ9 0 rfl E4 F5 (A0 rfl) rfl (A0 rfl) (by first | omega | (simp only [A6, A7, B2, B7, A8, szR] at *; omega)) (by first | omega | (simp only [A6, A7, B2, B7, A8, szR] at *; omega))) ?_
     refine Az1 0 rfl rfl rfl E4 Tryz.zeroValue9 rfl rfl (by decide) (A0 rfl) rfl (by simp only [A6, Int.toNat_natCast]; omega) ?_
     refine A4 (A3 (A2 ?_))
     refine A5 rfl rfl rfl rfl rfl ?_
     refine A5 rfl rfl rfl rfl rfl ?_
     refine sq_ahi 0 rfl rfl rfl rfl E4 F5 (A0 rfl) rfl (A0 rfl) (by omega) (by simp only [A6, J1, A7, List.length_replicate]; omega) ?_
     intro v59_1
     refine B9 rfl rfl rfl rfl rfl ?_
     refine A4 ?_
     refine C8 ?_
     exact K1 [0] v59_1 (trivial) rfl (by first | exact congrArg (fun z => [Own.arr _ 9 1 (List.map (fun s => [AV.str s]) z)]) hall | (refine congrArg (fun z => [Own.arr _ 9 1 z]) ?_; exact (Ab3 hinv.2.2.2.2.1 hge (by omega)).symm)) (N1 rfl (C5 rfl (by first | rfl | (refine congrArg AV.bool ?_; simp_all; done))))
   ·intro h25
    refine D2 (A2 ?_)
    refine A5 rfl rfl rfl rfl rfl ?_
    refine A1 rfl rfl rfl (G7 rfl (A0 rfl) C4 (by first | omega | (simp only [A6, A7, B2, B7, A8, szR] at *; omega))) ?_
    refine B9 rfl rfl rfl rfl rfl ?_
    refine A4 ?_
    refine L4 k (k + 1) ?_ ?_ (J8 ⟨rfl, rfl, trivial⟩)
    ·exact ⟨⟨by omega, by omega⟩, fun i h1 h2 => if e : i = k then (by subst e; rw [hx, hy]; intro e; injection e with e; subst e; simp at h25) else hinv.2 i h1 (by omega)⟩
    ·omega
  ·intro h13
   have k13 := of_decide_eq_false h13; try simp only [A6] at k13
   have hall : cmpL l = l := by (unfold cmpL; rw [AE5 (Nat.le_refl _) (fun i h1 h2 => hinv.2 i h1 (by omega)), List.take_length])
   refine H3 ?_
   refine A3 (A2 ?_)
   refine A5 rfl rfl rfl rfl rfl ?_
   refine B9 rfl rfl rfl rfl rfl ?_
   refine A4 ?_
   refine C8 ?_
   exact K1 [0] v (trivial) rfl (by first | exact congrArg (fun z => [Own.arr _ 9 1 (List.map (fun s => [AV.str s]) z)]) hall | (refine congrArg (fun z => [Own.arr _ 9 1 z]) ?_; exact (Ab3 hinv.2.2.2.2.1 hge (by omega)).symm)) (N1 rfl (C5 rfl (by first | rfl | (refine congrArg AV.bool ?_; simp_all; done))))
end Go.Proofs.YtnlhbdkcgaeimaaGreat

set_option linter.unusedVariables false
set_option linter.unusedSimpArgs false
set_option maxRecDepth 100000
set_option maxHeartbeats 1000000
namespace Go.M
open Go.AV
theorem Ag3 {l : List TWrite} (h : adj wLess l = true) (k : Str) : wHas l k = hasK l k := by
  have e := findW_eq h k
  cases hw : wHas l k with
  | true =>
    obtain ⟨x, hx, hk⟩ := wHas_iff.1 hw
    exact (k6.2 ⟨x, G6 hx, hk⟩).symm
  | false =>
    rw [hw] at e
    simp only [Bool.false_eq_true, if_false] at e
    unfold findW at e
    rw [List.find?_eq_none] at e
    cases hk : hasK l k with
    | false => rfl
    | true => obtain ⟨x, hx, hxk⟩ := k6.1 hk; have := e x hx; simp [hxk] at this
theorem Aw9 {w : List TWrite} (h : goodWrites w = true) : adj wLess w = true := by
  unfold goodWrites areRising wKeys at h
  simp only [Bool.and_eq_true] at h
  have := h.1.2.2
  rw [AR4] at this
  exact this
theorem BA7 {l : List TCell} (ha : adj cLess l = true) {k : Str} {c : TCell} (hc : cHas l k = true → l[cPos l k]? = some c) : fullC l k = (cHas l k && decide ((16 : Int) ≤ (c.Vers.length : Int))) := by
  unfold fullC
  rw [AV6 ha]
  cases h : cHas l k with
  | false => simp
  | true =>
    rw [if_pos rfl, hc h, Bool.true_and]
    dsimp only
    rw [decide_eq_decide]; omega
theorem U2 {l : List THeld} {i : Nat} {h : THeld} {n : Nat} (hs : sizeL THeld.size l ≤ n) (hx : l[i]? = some h) : h.size ≤ n ∧ sizeL TWrite.size h.Writes ≤ n ∧ h.Writes.length ≤ n ∧ h.Reads.length ≤ n ∧ (hRec h).size ≤ n := by
  have h1 := Nat.le_trans (V6 hx) hs
  have h2 : h.size = sizeL (fun x => x.length) h.Reads + sizeL TWrite.size h.Writes := rfl
  have h3 := O2 (f := fun x : Str => x.length) (l := h.Reads)
  have h4 := O2 (f := TWrite.size) (l := h.Writes)
  have h5 : (hRec h).size = sizeL (fun x => x.length) h.Reads + sizeL TWrite.size h.Writes := rfl
  exact ⟨by omega, by omega, by omega, by omega, by omega⟩
theorem AL3 {α : Type} {f : α → Nat} {l : List α} (i : Nat) : sizeL f (l.take i) ≤ sizeL f l := by
  have := m8 (f := f) (l := l.take i) (r := l.drop i)
  rw [List.take_append_drop] at this; omega
theorem AR8 : ∀ {l : List THeld}, (hWs l).length ≤ sizeL THeld.size l
  | [] => Nat.zero_le _
  | h :: l => by
    have ih := AR8 (l := l)
    have h4 := O2 (f := TWrite.size) (l := h.Writes)
    have h2 : h.size = sizeL (fun x => x.length) h.Reads + sizeL TWrite.size h.Writes := rfl
    rw [AD5, J1, N7]; omega
theorem Am7 {l : List THeld} {i : Nat} {h : THeld} (hx : l[i]? = some h) : hWs (l.take (i + 1)) = hWs (l.take i) ++ h.Writes := by
  rw [List.take_add_one, hx, AY4]
  show _ ++ hWs [h] = _
  rw [AD5]; simp [hWs]
def tCmp (n : Int) (t : TTold) : Int := cmpInt t.Txn n
def hCmp (n : Int) (h : THeld) : Int := cmpInt h.Txn n
def hPos (l : List THeld) (n : Int) : Nat := bs (hCmp n) l 0 l.length
def hHas (l : List THeld) (n : Int) : Bool := bsAt (hCmp n) l (hPos l n)
def tPos (l : List TTold) (n : Int) : Nat := bs (tCmp n) l 0 l.length
def tHas (l : List TTold) (n : Int) : Bool := bsAt (tCmp n) l (tPos l n)
theorem AK3 (a b : Int) : cmpInt a b < 0 ↔ a < b := by unfold cmpInt; split <;> (try split) <;> omega
theorem AG5 (a b : Int) : cmpInt a b = 0 ↔ a = b := by unfold cmpInt; split <;> (try split) <;> omega
theorem AD0 {α : Type} {f : α → Int} {l : List α} (h : l.Pairwise fun a b => f a < f b) {i j : Nat} {x y : α} (hij : i < j) (hx : l[i]? = some x) (hy : l[j]? = some y) : f x < f y := by
  obtain ⟨i1, i2⟩ := List.getElem?_eq_some_iff.1 hx
  obtain ⟨j1, j2⟩ := List.getElem?_eq_some_iff.1 hy
  have := List.pairwise_iff_getElem.1 h i j i1 j1 hij
  rw [i2, j2] at this; exact this
theorem AW2 {α : Type} {f : α → Int} {l : List α} (h : l.Pairwise fun a b => f a < f b) (n : Int) : (∀ i x, i < bs (fun a => cmpInt (f a) n) l 0 l.length → l[i]? = some x → f x < n) ∧ (∀ x, l[bs (fun a => cmpInt (f a) n) l 0 l.length]? = some x → n ≤ f x) := by
  have := Ab4 (fun a => cmpInt (f a) n) l (fun i j x y hij hx hy hf => by
    rw [AK3] at *
    have := AD0 h hij hx hy; omega) l.length 0 l.length rfl (Nat.zero_le _) (Nat.le_refl _) (fun k x hk => by omega) (fun x hx => by rw [List.getElem?_eq_none (Nat.le_refl _)] at hx; cases hx)
  exact ⟨fun i x hi hx => (AK3 _ _).1 (this.1 i x hi hx), fun x hx => by have := this.2 x hx; rw [AK3] at this; omega⟩
theorem Au2 {α : Type} {f : α → Int} {l : List α} (h : l.Pairwise fun a b => f a < f b) (n : Int) : bsAt (fun a => cmpInt (f a) n) l (bs (fun a => cmpInt (f a) n) l 0 l.length) = l.any fun a => f a == n := by
  obtain ⟨h1, h2⟩ := AW2 h n
  cases ha : l.any fun a => f a == n with
  | true =>
    rw [List.any_eq_true] at ha
    obtain ⟨x, hx, e⟩ := ha
    obtain ⟨i, hi⟩ := List.getElem?_of_mem hx
    have e : f x = n := by simpa using e
    have hip : bs (fun a => cmpInt (f a) n) l 0 l.length = i := by
      rcases Nat.lt_trichotomy i (bs (fun a => cmpInt (f a) n) l 0 l.length) with h3 | h3 | h3
      · have := h1 i x h3 hi; omega
      · exact h3.symm
      · have hl := (List.getElem?_eq_some_iff.1 hi).1
        have hy := List.getElem?_eq_getElem (show bs (fun a => cmpInt (f a) n) l 0 l.length < l.length by omega)
        have h4 := h2 _ hy
        have h5 := AD0 h h3 hy hi; omega
    rw [hip]
    unfold bsAt
    rw [hi]
    simp only [(AG5 _ _).2 e]; rfl
  | false =>
    rw [List.any_eq_false] at ha
    unfold bsAt
    cases e : l[bs (fun a => cmpInt (f a) n) l 0 l.length]? with
    | none => rfl
    | some x =>
      have := ha x (G6 e)
      simp only [beq_iff_eq] at this ⊢
      rw [beq_eq_false_iff_ne]
      exact fun k => this ((AG5 _ _).1 k)
theorem r4 {l : List THeld} (h : l.Pairwise fun a b => a.Txn < b.Txn) (n : Int) : hHas l n = hasH l n := Au2 (f := THeld.Txn) h n
theorem AR9 {l : List TTold} (h : l.Pairwise fun a b => a.Txn < b.Txn) (n : Int) : tHas l n = hasT l n := Au2 (f := TTold.Txn) h n
theorem R9 {s : TState} {n : Nat} (h : s.size ≤ n) : sizeL TCell.size s.Cells ≤ n ∧ sizeL THeld.size s.Held ≤ n ∧ s.Told.length ≤ n ∧ s.Cells.length ≤ n ∧ s.Held.length ≤ n := by
  have h1 : s.size = sizeL TCell.size s.Cells + sizeL THeld.size s.Held + s.Told.length := rfl
  have h2 := O2 (f := TCell.size) (l := s.Cells)
  have h3 := O2 (f := THeld.size) (l := s.Held)
  exact ⟨by omega, by omega, by omega, by omega, by omega⟩
theorem AA2 {s : TState} {i : Nat} {h y : THeld} (hx : s.Held[i]? = some h) (hy : s.Held[i - 1]? = some y) : heldAt s i = (!(((!goodRec (hRec h) || decide (s.Floor < h.Time)) || (decide ((0 : Int) < (i : Int)) && decide (h.Txn ≤ y.Txn)))) && (!((s.Held.take i).any fun g => clash h g) && !(h.Writes.any fun w => decide (h.Time ≤ lastTime s.Cells w.Key)))) := by
  unfold heldAt
  rw [hx]
  have h1 : hPrev s.Held i h.Txn = !(decide ((0 : Int) < (i : Int)) && decide (h.Txn ≤ y.Txn)) := by
    unfold hPrev; rw [hy]; dsimp only
    congr 2
    rw [decide_eq_decide]; omega
  have h2 : ((s.Held.take i).all fun g => apart g h.Reads h.Writes) = !((s.Held.take i).any fun g => clash h g) := by
    rw [List.not_any_eq_all_not]; congr 1; funext g; rw [AF9, Bool.not_not]
  have h3 : (h.Writes.all fun w => decide (lastTime s.Cells w.Key < h.Time)) = !(h.Writes.any fun w => decide (h.Time ≤ lastTime s.Cells w.Key)) := by
    rw [List.not_any_eq_all_not]; congr 1; funext w; rw [← decide_not, decide_eq_decide]; omega
  dsimp only
  rw [h1, h2, h3]
  simp only [Bool.not_or, Bool.not_not, Bool.and_assoc]
theorem AT8 {s : TState} {i : Nat} {h : THeld} (hx : s.Held[i]? = some h) (hg : heldAt s i = true) : goodRec (hRec h) = true ∧ ∀ g, 0 < i → s.Held[i - 1]? = some g → g.Txn < h.Txn := by
  unfold heldAt at hg
  rw [hx] at hg
  simp only [Bool.and_eq_true, AO3] at hg
  exact ⟨hg.1.1.1.1, hg.1.1.2⟩
theorem AD7 {h : THeld} (hg : goodRec (hRec h) = true) : adj wLess h.Writes = true := by
  unfold goodRec hRec at hg
  rw [if_pos rfl] at hg
  unfold good1 at hg
  simp only [Bool.and_eq_true] at hg
  exact Aw9 hg.1.1.2
theorem Am8 {s : TState} (h : areHeld s = true) : s.Held.Pairwise fun a b => a.Txn < b.Txn := by
  unfold areHeld at h
  rw [Bool.and_eq_true, p7] at h
  exact AJ7 fun i x y h0 hx hy => (AT8 hx (h.1 i (List.getElem?_eq_some_iff.1 hx).1)).2 y h0 hy
theorem AE7 {s : TState} {i : Nat} {t y : TTold} (hx : s.Told[i]? = some t) (hy : s.Told[i - 1]? = some y) : toldAt s i = (!((!isTxnR t.Txn || !((t.Yes && within t.Time 1 s.Floor) || (!t.Yes && (t.Time == 0)))) || (decide ((0 : Int) < (i : Int)) && decide (t.Txn ≤ y.Txn))) && !hasH s.Held t.Txn) := by
  unfold toldAt
  rw [hx]
  have h1 : tPrev s.Told i t.Txn = !(decide ((0 : Int) < (i : Int)) && decide (t.Txn ≤ y.Txn)) := by
    unfold tPrev; rw [hy]; dsimp only
    congr 2
    rw [decide_eq_decide]; omega
  have h2 : tFits s t = ((t.Yes && within t.Time 1 s.Floor) || (!t.Yes && (t.Time == 0))) := by
    unfold tFits; cases t.Yes <;> simp
  dsimp only
  rw [h1, h2]
  generalize ((t.Yes && within t.Time 1 s.Floor) || (!t.Yes && (t.Time == 0))) = b
  simp only [Bool.not_or, Bool.not_not, Bool.and_assoc]
end Go.M
namespace Go.Proofs.YtnlhbdkcgaeimaaGreat
open Go Go.AV Go.M
attribute [local irreducible] OpW OpA OpS AWP FSpec ESpec GSpec OpE RetOk RetOkG RvDen Le Ev GuardIs SrcIs Int.tmod Int.tdiv IntKind.wrap
theorem Ah8 (w : TWrite) (os : List TWrite) (rs : List Str) (hs : os.length ≤ 4611686018427387903) (ha : adj wLess os = true) : FSpec Tryz.prog 278 [AV.agg w.cs, AV.eptr [AV.list 3 (os.map TWrite.cs)], AV.eptr [strs rs]] (AV.bool (hasK os w.Key || hasS rs w.Key)) := by
 have hwh := Ag3 ha w.Key
 refine E7 Tryz.func278 rfl Tryz.ntmps278 rfl ?_
 refine A3 (A2 ?_)
 refine M3 rfl rfl rfl rfl (A0 rfl) ?_
 intro b3
 refine A1 rfl rfl rfl (C3 rfl F4) ?_
 refine A4 (A3 (A2 ?_))
 refine A1 rfl rfl rfl (N6 rfl (A0 rfl) L8 rfl) ?_
 refine A1 rfl rfl rfl (B3 0 rfl I1 rfl F5 (A0 rfl) rfl) ?_
 refine A1 rfl rfl rfl (B1 0 rfl (A0 rfl) rfl H1 rfl) ?_
 refine A1 rfl rfl rfl (E5 rfl Tryz.call216 rfl (AH9 _ _ (by omega)) (A9 (A0 rfl) (A9 (A0 rfl) D1))) ?_
 refine A5 rfl rfl rfl rfl rfl ?_
 refine A1 rfl rfl rfl (F6 rfl (A0 rfl) rfl) ?_
 refine A1 rfl rfl rfl (F6 rfl (A0 rfl) rfl) ?_
 refine B9 rfl rfl rfl rfl rfl ?_
 refine B9 rfl rfl rfl rfl rfl ?_
 refine A4 (A3 (A2 ?_))
 refine A5 rfl rfl rfl rfl rfl ?_
 refine A5 rfl rfl rfl rfl rfl ?_
 refine B4 rfl rfl (D4 rfl rfl rfl) (fun hc => N6 rfl (A0 rfl) N9 rfl) ?_
 refine B4 rfl rfl (D4 rfl rfl rfl) (fun hc => B3 0 rfl I1 rfl F5 (A0 rfl) rfl) ?_
 refine B4 rfl rfl (D4 rfl rfl rfl) (fun hc => B1 0 rfl (B0 rfl hc) rfl H1 rfl) ?_
 refine B4 rfl rfl (D4 rfl rfl rfl) (fun hc => E5 rfl Tryz.call279 rfl (AM2 _ _) (A9 (B0 rfl hc) (A9 (B0 rfl hc) D1))) ?_
 refine A1 rfl rfl rfl (Q4 rfl (A0 rfl) (G4 rfl)) ?_
 refine B9 rfl rfl rfl rfl rfl ?_
 refine A4 ?_
 refine C8 ?_
 exact H9 rfl (C5 rfl (by exact congrArg AV.bool (by rw [hwh]; rfl)))
theorem AP3 (ws : List TWrite) (rs : List Str) (os : List TWrite) (hs : os.length ≤ 4611686018427387903) (ha : adj wLess os = true) : FSpec Tryz.prog 244 [AV.list 3 (ws.map TWrite.cs), strs rs, AV.list 3 (os.map TWrite.cs)] (AV.bool (overlap ws rs os)) := by
 refine E7 Tryz.func244 rfl Tryz.ntmps244 rfl ?_
 refine A3 (A2 ?_)
 refine At1 rfl rfl rfl rfl (A0 rfl) (AU6 _ _) ?_
 intro b4
 refine At1 rfl rfl rfl rfl (A0 rfl) (AU6 _ _) ?_
 intro b5
 refine A1 rfl rfl rfl (C3 rfl F4) ?_
 refine A4 (A3 (A2 ?_))
 refine A5 rfl rfl rfl rfl rfl ?_
 refine A1 rfl rfl rfl (Aj1 rfl rfl (A9 (A0 rfl) (A9 (A0 rfl) D1))) ?_
 refine A1 rfl rfl rfl (V8 rfl Tryz.call186 rfl (g7 _ _ _ (by first | (intros; trivial) | assumption | (intros; first | trivial | (simp_all; done)))) (G3 _) (N3 (evb (A0 rfl)) (N3 (AB4 (Aj9 0 1 (A0 rfl) rfl rfl) (AI6 Tryz.call278 (fun w (_ : True) => Ah8 w _ _ (by first | assumption | omega) (by assumption)))) U3))) ?_
 refine B9 rfl rfl rfl rfl rfl ?_
 refine A4 ?_
 refine C8 ?_
 exact H9 rfl (C5 rfl (by first | rfl | (refine congrArg AV.bool ?_; simp_all; done)))
theorem AZ4 (h k : THeld) (h1 : h.Writes.length ≤ 4611686018427387903) (k1 : k.Writes.length ≤ 4611686018427387903) (ha : adj wLess h.Writes = true) (ka : adj wLess k.Writes = true) : FSpec Tryz.prog 185 [AV.agg h.cs, AV.agg k.cs] (AV.bool (clash h k)) := by
 refine E7 Tryz.func185 rfl Tryz.ntmps185 rfl ?_
 refine A3 (A2 ?_)
 refine M3 rfl rfl rfl rfl (A0 rfl) ?_
 intro b2
 refine M3 rfl rfl rfl rfl (A0 rfl) ?_
 intro b3
 refine A1 rfl rfl rfl (C3 rfl F4) ?_
 refine A4 (A3 (A2 ?_))
 refine A1 rfl rfl rfl (B3 4 rfl F1 rfl K2 (A0 rfl) rfl) ?_
 refine A1 rfl rfl rfl (B1 1 rfl (A0 rfl) rfl L8 rfl) ?_
 refine A1 rfl rfl rfl (B3 3 rfl F1 rfl L7 (A0 rfl) rfl) ?_
 refine A1 rfl rfl rfl (B1 0 rfl (A0 rfl) rfl N9 rfl) ?_
 refine A1 rfl rfl rfl (B3 4 rfl F1 rfl K2 (A0 rfl) rfl) ?_
 refine A1 rfl rfl rfl (B1 0 rfl (A0 rfl) rfl L8 rfl) ?_
 refine A1 rfl rfl rfl (E5 rfl Tryz.call244 rfl (AP3 _ _ _ (by first | assumption | omega) (by assumption)) (A9 (A0 rfl) (A9 (A0 rfl) (A9 (A0 rfl) D1)))) ?_
 refine A5 rfl rfl rfl rfl rfl ?_
 refine B4 rfl rfl (D4 rfl rfl rfl) (fun hc => B3 4 rfl F1 rfl K2 (A0 rfl) rfl) ?_
 refine B4 rfl rfl (D4 rfl rfl rfl) (fun hc => B1 0 rfl (B0 rfl hc) rfl L8 rfl) ?_
 refine B4 rfl rfl (D4 rfl rfl rfl) (fun hc => B3 3 rfl F1 rfl L7 (A0 rfl) rfl) ?_
 refine B4 rfl rfl (D4 rfl rfl rfl) (fun hc => B1 1 rfl (B0 rfl hc) rfl N9 rfl) ?_
 refine B4 rfl rfl (D4 rfl rfl rfl) (fun hc => B3 4 rfl F1 rfl K2 (A0 rfl) rfl) ?_
 refine B4 rfl rfl (D4 rfl rfl rfl) (fun hc => B1 1 rfl (B0 rfl hc) rfl L8 rfl) ?_
 refine B4 rfl rfl (D4 rfl rfl rfl) (fun hc => E5 rfl Tryz.call244 rfl (AP3 _ _ _ (by first | assumption | omega) (by assumption)) (A9 (B0 rfl hc) (A9 (B0 rfl hc) (A9 (B0 rfl hc) D1)))) ?_
 refine A1 rfl rfl rfl (Q4 rfl (A0 rfl) (G4 rfl)) ?_
 refine B9 rfl rfl rfl rfl rfl ?_
 refine A4 ?_
 refine C8 ?_
 exact H9 rfl (C5 rfl (by first | rfl | (refine congrArg AV.bool ?_; simp_all; done)))
theorem Am9 (h : THeld) : FSpec Tryz.prog 182 [AV.agg h.cs] (AV.agg (hRec h).cs) := by
 refine E7 Tryz.func182 rfl Tryz.ntmps182 rfl ?_
 refine A3 (A2 ?_)
 refine M3 rfl rfl rfl rfl (A0 rfl) ?_
 intro b1
 refine G0 rfl rfl rfl rfl Tryz.zeroValue49 rfl ?_
 intro b2
 refine A4 (A3 (A2 ?_))
 refine A1 rfl rfl rfl (B3 0 rfl F1 rfl C0 (A0 rfl) rfl) ?_
 refine A1 rfl rfl rfl (B1 1 rfl (A0 rfl) rfl D0 rfl) ?_
 refine A1 rfl rfl rfl (B3 1 rfl F1 rfl C0 (A0 rfl) rfl) ?_
 refine A1 rfl rfl rfl (B1 1 rfl (A0 rfl) rfl D0 rfl) ?_
 refine A1 rfl rfl rfl (B3 2 rfl F1 rfl C0 (A0 rfl) rfl) ?_
 refine A1 rfl rfl rfl (B1 1 rfl (A0 rfl) rfl D0 rfl) ?_
 refine A1 rfl rfl rfl (B3 3 rfl F1 rfl L7 (A0 rfl) rfl) ?_
 refine A1 rfl rfl rfl (B1 1 rfl (A0 rfl) rfl N9 rfl) ?_
 refine A1 rfl rfl rfl (B3 4 rfl F1 rfl K2 (A0 rfl) rfl) ?_
 refine A1 rfl rfl rfl (B1 1 rfl (A0 rfl) rfl L8 rfl) ?_
 refine A1 rfl rfl rfl (N0 (places := #[(0, 1), (1, 1), (2, 1), (3, 1), (4, 1), (5, 1), (6, 1)]) rfl B6 Tryz.zeroValue49 (fun w => by kernel_rfl) rfl (E0 C4 (K9 _ _) (E0 (A0 rfl) (K9 _ _) (E0 (A0 rfl) (K9 _ _) (E0 (A0 rfl) (K9 _ _) (E0 (A0 rfl) (S2 _ _) (E0 (A0 rfl) (S2 _ _) H6)))))) rfl) ?_
 refine D5 0 rfl rfl rfl (A0 rfl) (A0 rfl) (E2 _) rfl F7 rfl ?_
 refine A4 ?_
 refine C8 ?_
 exact H9 rfl (J6 (ys := _) 0 rfl rfl K7 F7 rfl)
theorem An0 {l : List TCell} {h : List THeld} (a b : Nat) (hl : sizeL TCell.size l ≤ 1048576) (hh : sizeL THeld.size h ≤ 1048576) : (cKeys (l.take a) ++ wKeys (hWs (h.take b))).length ≤ 2097152 := by
  have h1 := O2 (f := TCell.size) (l := l)
  have h2 := AR8 (l := h.take b)
  have h3 := AL3 (f := THeld.size) (l := h) b
  unfold cKeys wKeys
  simp only [J1, A6, A7]
  omega
theorem Ag4 (s : TState) (held : List THeld) (hg : goodCells s.Cells = true) (hs : s.size ≤ 1048576) (hh : sizeL THeld.size held ≤ 1048576) : FSpec Tryz.prog 188 [AV.agg s.cs, AV.list 5 (held.map THeld.cs)] (AV.bool (decide (held.length ≤ 12) && room s.Cells (hWs held))) := by
 obtain ⟨hs1, hs2, hs3, hs4, hs5⟩ := R9 hs
 have hca := (e8 hg).2.1
 have hhl := O2 (f := THeld.size) (l := held)
 obtain ⟨p, hp⟩ : ∃ p : TWrite → Bool, p = fun w => !fullC s.Cells w.Key := ⟨_, rfl⟩
 refine E7 Tryz.func188 rfl Tryz.ntmps188 rfl ?_
 refine A3 (A2 ?_)
 refine M3 rfl rfl rfl rfl (A0 rfl) ?_
 intro b2
 refine A1 rfl rfl rfl (C3 rfl F4) ?_
 refine A4 (A3 (A2 ?_))
 refine S4 rfl rfl rfl rfl E4 F5 ?_
 intro v14
 refine B9 rfl rfl rfl rfl rfl ?_
 refine A4 (A3 (A3 (A2 ?_)))
 refine A1 rfl rfl rfl (B3 1 rfl B8 rfl M7 (A0 rfl) rfl) ?_
 refine A1 rfl rfl rfl (B1 1 rfl (A0 rfl) rfl P5 rfl) ?_
 refine A1 rfl rfl rfl (G9 rfl D8 (A0 rfl)) ?_
 refine A1 rfl rfl rfl (C6 rfl C4) ?_
 refine A4 (D7 ?_)
 refine V0 [(1, _), (2, _), (4, _), (16, _), (17, _)] _ (fun (i : Nat) (v : Value) (ks : List Str) => i ≤ s.Cells.length ∧ ks = cKeys (s.Cells.take i)) (fun (i : Nat) (v : Value) (ks : List Str) => [.arr v 9 1 (ks.map fun k => [AV.str k])]) (fun (i : Nat) (v : Value) (ks : List Str) => [(5, AV.is v), (18, AV.int i)]) (fun (i : Nat) (v : Value) (ks : List Str) => s.Cells.length - i) (0) (v14) ([]) ?_ (S7 (by rfl) ⟨rfl, rfl, rfl, rfl, rfl, rfl, rfl, trivial⟩) ?_
 ·exact ⟨Nat.zero_le _, rfl⟩
 intro i v ks hinv
 refine A3 (A2 ?_)
 refine A1 rfl rfl rfl (K6 rfl (A0 rfl) (A0 rfl)) ?_
 refine A4 (A3 ?_)
 refine C7 (A0 rfl) ?_ ?_
 ·intro h19
  have k19 := of_decide_eq_true h19; try simp only [A6] at k19
  have hlt : i < s.Cells.length := by omega
  obtain ⟨c, hx⟩ := get_some hlt
  have hkl : ks.length ≤ 1048576 := by rw [hinv.2]; unfold cKeys; rw [A6, A7]; omega
  refine D2 (A3 (D7 (A3 (A2 ?_))))
  refine A1 rfl rfl rfl (I7 rfl D8 F0 (A0 rfl) (A0 rfl) hx (by first | omega | (simp only [A6, A7, B2, B7, A8, szR] at *; omega))) ?_
  refine A1 rfl rfl rfl (K4 rfl (A0 rfl) S9 F0) ?_
  refine G0 rfl rfl rfl rfl Tryz.zeroValue142 rfl ?_
  intro b7
  refine D5 0 rfl rfl rfl (A0 rfl) (A0 rfl) (E2 _) rfl F0 rfl ?_
  refine A4 (A2 ?_)
  refine A5 rfl rfl rfl rfl rfl ?_
  refine A1 rfl rfl rfl (B3 0 rfl G5 rfl F5 (A0 rfl) rfl) ?_
  refine A1 rfl rfl rfl (B1 0 rfl (A0 rfl) rfl H1 rfl) ?_
  refine A1 rfl rfl rfl (L9 rfl E4 F5 Tryz.zeroValue9 rfl rfl rfl rfl (E0 (A0 rfl) (P6 _) H6) rfl rfl) ?_
  refine L5 (by' := 16) 1 rfl rfl rfl rfl E4 Tryz.type9 rfl rfl rfl rfl rfl rfl (A0 rfl) (A0 rfl) rfl (by first | omega | (simp only [A6, A7, B2, B7, A8, szR] at *; omega)) ?_
  intro v26_1
  refine B9 rfl rfl rfl rfl rfl ?_
  refine A4 (A2 ?_)
  refine A1 rfl rfl rfl (G7 rfl (A0 rfl) C4 (by first | omega | (simp only [A6, A7, B2, B7, A8, szR] at *; omega))) ?_
  refine A5 rfl rfl rfl rfl rfl ?_
  refine A4 ?_
  refine T5 i v ks (i + 1) (v26_1) (ks ++ [c.Key]) ?_ ?_ (M1 1 (by (rw [List.map_append]; rfl)) ⟨rfl, rfl, rfl, rfl, rfl, rfl, rfl, trivial⟩)
  ·exact ⟨by omega, by rw [hinv.2]; unfold cKeys; rw [List.take_add_one, hx, List.map_append]; rfl⟩
  ·omega
 ·intro h19
  have k19 := of_decide_eq_false h19; try simp only [A6] at k19
  have hge : s.Cells.length ≤ i := by omega
  have hks : ks = cKeys s.Cells := by rw [hinv.2, List.take_of_length_le hge]
  refine H3 ?_
  refine A3 (A3 (A2 ?_))
  refine A5 rfl rfl rfl rfl rfl ?_
  refine A1 rfl rfl rfl (G9 rfl C9 (A0 rfl)) ?_
  refine A1 rfl rfl rfl (C6 rfl C4) ?_
  refine A4 (D7 ?_)
  refine V0 [(1, _), (2, _), (28, _), (29, _)] _ (fun (q : Nat) (v1 : Value) (k1 : List Str) => q ≤ held.length ∧ k1 = cKeys s.Cells ++ wKeys (hWs (held.take q)) ∧ (hWs held).all p = (hWs (held.drop q)).all p) (fun (q : Nat) (v1 : Value) (k1 : List Str) => [.arr v1 9 1 (k1.map fun k => [AV.str k])]) (fun (q : Nat) (v1 : Value) (k1 : List Str) => [(5, AV.is v1), (30, AV.int q)]) (fun (q : Nat) (v1 : Value) (k1 : List Str) => held.length - q) (0) (v) (ks) ?_ (S7 (by rfl) ⟨rfl, rfl, rfl, rfl, rfl, rfl, trivial⟩) ?_
  ·exact ⟨Nat.zero_le _, by rw [hks, List.take_zero]; simp [hWs, wKeys], rfl⟩
  intro q v1 k1 hinv
  refine A3 (A2 ?_)
  refine A1 rfl rfl rfl (K6 rfl (A0 rfl) (A0 rfl)) ?_
  refine A4 (A3 ?_)
  refine C7 (A0 rfl) ?_ ?_
  ·intro h31
   have k31 := of_decide_eq_true h31; try simp only [A6] at k31
   have hlt : q < held.length := by omega
   obtain ⟨h, hh0⟩ := get_some hlt
   obtain ⟨g1, g2, g3, g4, g5⟩ := U2 hh hh0
   have hinv1 := hinv
   refine D2 (A3 (D7 (A3 (A2 ?_))))
   refine A1 rfl rfl rfl (I7 rfl C9 D3 (A0 rfl) (A0 rfl) hh0 (by first | omega | (simp only [A6, A7, B2, B7, A8, szR] at *; omega))) ?_
   refine A1 rfl rfl rfl (K4 rfl (A0 rfl) I0 D3) ?_
   refine G0 rfl rfl rfl rfl Tryz.zeroValue45 rfl ?_
   intro b9
   refine D5 0 rfl rfl rfl (A0 rfl) (A0 rfl) (E2 _) rfl D3 rfl ?_
   refine A4 (A3 (A2 ?_))
   refine A1 rfl rfl rfl (B3 4 rfl F1 rfl K2 (A0 rfl) rfl) ?_
   refine A1 rfl rfl rfl (B1 0 rfl (A0 rfl) rfl L8 rfl) ?_
   refine A1 rfl rfl rfl (G9 rfl F3 (A0 rfl)) ?_
   refine A1 rfl rfl rfl (C6 rfl C4) ?_
   refine A4 (D7 ?_)
   refine AWP.le (I8 [1] rfl) ?_
   refine V0 [(1, _), (2, _), (9, _), (28, _), (29, _), (30, _), (31, _), (32, _), (33, _), (34, _), (35, _), (36, _)] _ (fun (r : Nat) (v2 : Value) (k2 : List Str) => r ≤ h.Writes.length ∧ k2 = k1 ++ wKeys (h.Writes.take r) ∧ h.Writes.all p = (h.Writes.drop r).all p) (fun (r : Nat) (v2 : Value) (k2 : List Str) => [.arr v2 9 1 (k2.map fun k => [AV.str k])]) (fun (r : Nat) (v2 : Value) (k2 : List Str) => [(5, AV.is v2), (37, AV.int r)]) (fun (r : Nat) (v2 : Value) (k2 : List Str) => h.Writes.length - r) (0) (v1) (k1) ?_ (S7 (by rfl) ⟨rfl, rfl, rfl, rfl, rfl, rfl, rfl, rfl, rfl, rfl, rfl, rfl, rfl, rfl, trivial⟩) ?_
   ·exact ⟨Nat.zero_le _, by simp [wKeys], rfl⟩
   intro r v2 k2 hinv
   refine A3 (A2 ?_)
   refine A1 rfl rfl rfl (K6 rfl (A0 rfl) (A0 rfl)) ?_
   refine A4 (A3 ?_)
   refine C7 (A0 rfl) ?_ ?_
   ·intro h38
    have k38 := of_decide_eq_true h38; try simp only [A6] at k38
    have hlt2 : r < h.Writes.length := by omega
    obtain ⟨w, hw⟩ := get_some hlt2
    obtain ⟨c, hc0⟩ := AC8 s.Cells (cPos s.Cells w.Key)
    have hc1 : cHas s.Cells w.Key = true → s.Cells[cPos s.Cells w.Key]? = some c := fun e => by (obtain ⟨y, hy, _⟩ := s8.1 e; exact hc0 (List.getElem?_eq_some_iff.1 hy).1)
    have hfu := BA7 hca hc1
    have hk2l : k2.length ≤ 3145728 := by rw [hinv.2.1, hinv1.2.1]; have := An0 s.Cells.length q hs1 hh; rw [List.take_length] at this; unfold wKeys at this ⊢; simp only [J1, A6, A7] at this ⊢; omega
    refine D2 (A3 (D7 (A3 (A2 ?_))))
    refine A1 rfl rfl rfl (I7 rfl F3 H7 (A0 rfl) (A0 rfl) hw (by first | omega | (simp only [A6, A7, B2, B7, A8, szR] at *; omega))) ?_
    refine A1 rfl rfl rfl (K4 rfl (A0 rfl) S5 H7) ?_
    refine G0 rfl rfl rfl rfl Tryz.zeroValue77 rfl ?_
    intro b11
    refine D5 0 rfl rfl rfl (A0 rfl) (A0 rfl) (E2 _) rfl H7 rfl ?_
    refine A4 (A3 (A3 (A2 ?_)))
    refine A1 rfl rfl rfl (B3 1 rfl B8 rfl M7 (A0 rfl) rfl) ?_
    refine A1 rfl rfl rfl (B1 3 rfl (A0 rfl) rfl P5 rfl) ?_
    refine A1 rfl rfl rfl (B3 0 rfl I1 rfl F5 (A0 rfl) rfl) ?_
    refine A1 rfl rfl rfl (B1 0 rfl (A0 rfl) rfl H1 rfl) ?_
    refine A1 rfl rfl rfl (E5 rfl Tryz.call189 rfl (AA4 s.Cells w.Key (by omega)) (A9 (A0 rfl) (A9 (A0 rfl) D1))) ?_
    refine A5 rfl rfl rfl rfl rfl ?_
    refine A1 rfl rfl rfl (F6 rfl (A0 rfl) rfl) ?_
    refine A1 rfl rfl rfl (F6 rfl (A0 rfl) rfl) ?_
    refine B9 rfl rfl rfl rfl rfl ?_
    refine B9 rfl rfl rfl rfl rfl ?_
    refine A4 (A3 (A2 ?_))
    refine A5 rfl rfl rfl rfl rfl ?_
    refine A5 rfl rfl rfl rfl rfl ?_
    refine B4 rfl rfl (C2 rfl rfl rfl) (fun hc => B3 1 rfl B8 rfl M7 (A0 rfl) rfl) ?_
    refine B4 rfl rfl (C2 rfl rfl rfl) (fun hc => B1 3 rfl (B0 rfl hc) rfl P5 rfl) ?_
    refine B4 rfl rfl (C2 rfl rfl rfl) (fun hc => C6 rfl (A0 rfl)) ?_
    refine B4 rfl rfl (C2 rfl rfl rfl) (fun hc => AE2 rfl D8 F0 (B0 rfl hc) (B0 rfl hc) (by have := (List.getElem?_eq_some_iff.1 (hc1 hc)).1; omega) (by rw [Int.toNat_natCast, List.getElem?_map, hc1 hc]; rfl)) ?_
    refine B4 rfl rfl (C2 rfl rfl rfl) (fun hc => W7 rfl G5 rfl M0 (B0 rfl hc) rfl) ?_
    refine B4 rfl rfl (C2 rfl rfl rfl) (fun hc => N6 rfl (B0 rfl hc) P4 rfl) ?_
    refine B4 rfl rfl (C2 rfl rfl rfl) (fun hc => G9 rfl I5 (B0 rfl hc)) ?_
    refine B4 rfl rfl (C2 rfl rfl rfl) (fun hc => d6 rfl (B0 rfl hc) C4) ?_
    refine A1 rfl rfl rfl (I6 rfl (A0 rfl) (G4 rfl)) ?_
    refine A4 ?_
    refine C7 (A0 rfl) ?_ ?_
    ·intro h59
     have hpw : p w = false := by rw [hp]; simp only [Bool.not_eq_false']; rw [hfu]; simpa using h59
     have hro : room s.Cells (hWs held) = false := by (unfold room; rw [show ((hWs held).all fun w => !fullC s.Cells w.Key) = false from by rw [← hp, hinv1.2.2, drop_some hh0, AD5, List.all_append, hinv.2.2, drop_some hw, List.all_cons, hpw]; rfl]; rfl)
     refine A3 (A2 ?_)
     refine A1 rfl rfl rfl (C3 rfl F4) ?_
     refine A4 ?_
     refine C8 ?_
     exact H9 rfl (C5 rfl (by first | exact congrArg AV.bool (by rw [hro]; simp) | exact congrArg AV.bool (by rw [hre, Bool.eq_iff_iff]; simp only [Bool.and_eq_true, decide_eq_true_eq, decide_eq_false_iff_not, A6, Bool.false_eq_true, and_false, false_and, false_iff] at *; omega)))
    ·intro h59
     have hpw : p w = true := by rw [hp]; simp only [Bool.not_eq_true']; rw [hfu]; simpa using h59
     refine D2 (A2 ?_)
     refine A5 rfl rfl rfl rfl rfl ?_
     refine A1 rfl rfl rfl (B3 0 rfl I1 rfl F5 (A0 rfl) rfl) ?_
     refine A1 rfl rfl rfl (B1 0 rfl (A0 rfl) rfl H1 rfl) ?_
     refine A1 rfl rfl rfl (L9 rfl E4 F5 Tryz.zeroValue9 rfl rfl rfl rfl (E0 (A0 rfl) (P6 _) H6) rfl rfl) ?_
     refine L5 (by' := 16) 1 rfl rfl rfl rfl E4 Tryz.type9 rfl rfl rfl rfl rfl rfl (A0 rfl) (A0 rfl) rfl (by first | omega | (simp only [A6, A7, B2, B7, A8, szR] at *; omega)) ?_
     intro v64_2
     refine B9 rfl rfl rfl rfl rfl ?_
     refine A4 (A2 ?_)
     refine A1 rfl rfl rfl (G7 rfl (A0 rfl) C4 (by first | omega | (simp only [A6, A7, B2, B7, A8, szR] at *; omega))) ?_
     refine A5 rfl rfl rfl rfl rfl ?_
     refine A4 ?_
     refine T5 r v2 k2 (r + 1) (v64_2) (k2 ++ [w.Key]) ?_ ?_ (Le.trans (I8 [0, 0] rfl) (M1 1 (by (rw [List.map_append]; rfl)) ⟨rfl, rfl, rfl, rfl, rfl, rfl, rfl, rfl, rfl, rfl, rfl, rfl, rfl, rfl, trivial⟩))
     ·exact ⟨by omega, by rw [hinv.2.1]; unfold wKeys; rw [List.take_add_one, hw, List.map_append, List.append_assoc]; rfl, by rw [hinv.2.2, drop_some hw, List.all_cons, hpw]; rfl⟩
     ·omega
   ·intro h38
    have k38 := of_decide_eq_false h38; try simp only [A6] at k38
    have hge2 : h.Writes.length ≤ r := by omega
    have hk2 : k2 = k1 ++ wKeys h.Writes := by rw [hinv.2.1, List.take_of_length_le hge2]
    have hal : h.Writes.all p = true := by rw [hinv.2.2, List.drop_eq_nil_of_le hge2]; rfl
    refine H3 ?_
    refine A2 ?_
    refine A1 rfl rfl rfl (G7 rfl (A0 rfl) C4 (by first | omega | (simp only [A6, A7, B2, B7, A8, szR] at *; omega))) ?_
    refine A5 rfl rfl rfl rfl rfl ?_
    refine A4 ?_
    refine T5 q v1 k1 (q + 1) (v2) (k2) ?_ ?_ (Le.trans (I8 [1, 0] rfl) (M1 1 (by rfl) ⟨rfl, rfl, rfl, rfl, rfl, rfl, trivial⟩))
    ·exact ⟨by omega, by rw [hk2, hinv1.2.1, Am7 hh0]; simp [wKeys], by rw [hinv1.2.2, drop_some hh0, AD5, List.all_append, hal]; rfl⟩
    ·omega
  ·intro h31
   have k31 := of_decide_eq_false h31; try simp only [A6] at k31
   have hge : held.length ≤ q := by omega
   have hk9 : k1 = cKeys s.Cells ++ wKeys (hWs held) := by rw [hinv.2.1, List.take_of_length_le hge]
   have hal9 : (hWs held).all p = true := by rw [hinv.2.2, List.drop_eq_nil_of_le hge]; rfl
   have hln := An0 s.Cells.length held.length hs1 hh
   rw [List.take_length, List.take_length, ← hk9] at hln
   have hre : room s.Cells (hWs held) = decide ((cmpL (sortS k1)).length ≤ 24) := by (unfold room roomKs keysI; rw [← hp, hal9, ← hk9]; rfl)
   refine H3 ?_
   refine A3 (A2 ?_)
   refine A5 rfl rfl rfl rfl rfl ?_
   refine I2 [0] rfl rfl rfl rfl Tryz.call246 rfl (Am6 _ k1 (by omega)) (A9 (A0 rfl) D1) rfl ?_
   intro x68 ok68
   refine A4 (A3 (A2 ?_))
   refine A5 rfl rfl rfl rfl rfl ?_
   refine A1 rfl rfl rfl (G9 rfl C9 (A0 rfl)) ?_
   refine A1 rfl rfl rfl (U5 rfl (A0 rfl) C4) ?_
   refine A5 rfl rfl rfl rfl rfl ?_
   refine B4 rfl rfl (C2 rfl rfl rfl) (fun hc => C6 rfl (A0 rfl)) ?_
   refine AW1 rfl rfl (C2 rfl rfl rfl) ?_ ?_
   ·intro gh74
    refine I2 [0] rfl rfl rfl rfl Tryz.call247 rfl (Ac2 _ (sortS k1) (by rw [AN7]; omega)) (A9 (B0 rfl gh74) D1) rfl ?_
    intro x74 ok74
    refine B4 rfl rfl (C2 rfl rfl rfl) (fun hc => U9 0 rfl E4 (A0 rfl) rfl) ?_
    refine B4 rfl rfl (C2 rfl rfl rfl) (fun hc => U5 rfl (B0 rfl hc) C4) ?_
    refine A1 rfl rfl rfl (I6 rfl (A0 rfl) (G4 rfl)) ?_
    refine B9 rfl rfl rfl rfl rfl ?_
    refine A4 ?_
    refine C8 ?_
    exact H9 rfl (C5 rfl (by first | exact congrArg AV.bool (by rw [hro]; simp) | exact congrArg AV.bool (by rw [hre, Bool.eq_iff_iff]; simp only [Bool.and_eq_true, decide_eq_true_eq, decide_eq_false_iff_not, A6, Bool.false_eq_true, and_false, false_and, false_iff] at *; omega)))
   ·intro gh74
    refine AW1 rfl rfl (C2 rfl rfl rfl) (fun hq => by rw [gh74] at hq; cases hq) (fun _ => ?_)
    refine AW1 rfl rfl (C2 rfl rfl rfl) (fun hq => by rw [gh74] at hq; cases hq) (fun _ => ?_)
    refine A1 rfl rfl rfl (I6 rfl (A0 rfl) (evif_no (x := AV.bool false) gh74)) ?_
    refine B9 rfl rfl rfl rfl rfl ?_
    refine A4 ?_
    refine C8 ?_
    exact H9 rfl (C5 rfl (by first | exact congrArg AV.bool (by rw [hro]; simp) | exact congrArg AV.bool (by rw [hre, Bool.eq_iff_iff]; simp only [Bool.and_eq_true, decide_eq_true_eq, decide_eq_false_iff_not, A6, Bool.false_eq_true, and_false, false_and, false_iff] at *; omega)))
theorem Ah9 (h k : THeld) (h1 : h.Writes.length ≤ 4611686018427387903) (ha : adj wLess h.Writes = true) (hk : adj wLess k.Writes = true ∧ k.Writes.length ≤ 4611686018427387903) : FSpec Tryz.prog 184 [AV.agg k.cs, AV.eptr h.cs] (AV.bool (clash h k)) := by
 obtain ⟨ka, k1⟩ := hk
 refine E7 Tryz.func184 rfl Tryz.ntmps184 rfl ?_
 refine A3 (A2 ?_)
 refine M3 rfl rfl rfl rfl (A0 rfl) ?_
 intro b2
 refine A1 rfl rfl rfl (C3 rfl F4) ?_
 refine A4 (A3 (A2 ?_))
 refine A1 rfl rfl rfl (K4 rfl (A0 rfl) I0 D3) ?_
 refine A1 rfl rfl rfl (F2 0 rfl (A0 rfl) rfl I0 D3 rfl) ?_
 refine A1 rfl rfl rfl (E5 rfl Tryz.call185 rfl (AZ4 _ _ (by first | assumption | omega) (by first | assumption | omega) (by assumption) (by assumption)) (A9 (A0 rfl) (A9 (A0 rfl) D1))) ?_
 refine B9 rfl rfl rfl rfl rfl ?_
 refine A4 ?_
 refine C8 ?_
 exact H9 rfl (C5 rfl (by first | rfl | (refine congrArg AV.bool ?_; simp_all; done)))
theorem Ai0 (h : THeld) (s : TState) (w : TWrite) (ho : CellsOk s.Cells) (hs : sizeL TCell.size s.Cells ≤ 1048576) : FSpec Tryz.prog 187 [AV.agg w.cs, AV.eptr h.cs, AV.eptr s.cs] (AV.bool (decide (h.Time ≤ lastTime s.Cells w.Key))) := by
 refine E7 Tryz.func187 rfl Tryz.ntmps187 rfl ?_
 refine A3 (A2 ?_)
 refine M3 rfl rfl rfl rfl (A0 rfl) ?_
 intro b3
 refine A1 rfl rfl rfl (C3 rfl F4) ?_
 refine A4 (A3 ?_)
 refine K3 (by kernel_rfl) (by kernel_rfl) rfl ?_
 refine B5 rfl rfl (W7 rfl F1 rfl C0 (A0 rfl) rfl) ?_
 refine B5 rfl rfl (N6 rfl (A0 rfl) D0 rfl) ?_
 refine B5 rfl rfl (W7 rfl B8 rfl M7 (A0 rfl) rfl) ?_
 refine B5 rfl rfl (N6 rfl (A0 rfl) P5 rfl) ?_
 refine B5 rfl rfl (B3 0 rfl I1 rfl F5 (A0 rfl) rfl) ?_
 refine B5 rfl rfl (B1 0 rfl (A0 rfl) rfl H1 rfl) ?_
 refine B5 rfl rfl (E5 rfl Tryz.call93 rfl (AA5 _ _ (by first | assumption | exact V9 (by assumption)) (by first | assumption | omega)) (A9 (A0 rfl) (A9 (A0 rfl) D1))) ?_
 refine B5 rfl rfl (U5 rfl (A0 rfl) (A0 rfl)) ?_
 refine B5 rfl rfl (C3 rfl (A0 rfl)) ?_
 refine O1 ?_
 refine C8 ?_
 exact H9 rfl (C5 rfl (by first | rfl | (refine congrArg AV.bool ?_; simp_all; done)))
theorem An1 (s : TState) (hg : goodCells s.Cells = true) (hs : s.size ≤ 1048576) : FSpec Tryz.prog 92 [AV.agg s.cs] (AV.bool (areHeld s)) := by
 obtain ⟨hs1, hs2, hs3, hs4, hs5⟩ := R9 hs
 have hco := V9 hg
 refine E7 Tryz.func92 rfl Tryz.ntmps92 rfl ?_
 refine A3 (A2 ?_)
 refine M3 rfl rfl rfl rfl (A0 rfl) ?_
 intro b1
 refine A1 rfl rfl rfl (C3 rfl F4) ?_
 refine A4 (A3 (A3 (A2 ?_)))
 refine A1 rfl rfl rfl (B3 2 rfl B8 rfl E9 (A0 rfl) rfl) ?_
 refine A1 rfl rfl rfl (B1 0 rfl (A0 rfl) rfl I3 rfl) ?_
 refine A1 rfl rfl rfl (G9 rfl C9 (A0 rfl)) ?_
 refine A1 rfl rfl rfl (C6 rfl C4) ?_
 refine A4 (D7 ?_)
 refine J9 [(1, _), (6, _), (7, _)] _ (fun (i : Nat) => i ≤ s.Held.length ∧ ∀ j, j < i → heldAt s j = true) (fun (i : Nat) => []) (fun (i : Nat) => [(8, AV.int i)]) (fun (i : Nat) => s.Held.length - i) (0) ?_ (J8 ⟨rfl, rfl, rfl, rfl, trivial⟩) ?_
 ·exact ⟨Nat.zero_le _, fun j hj => by omega⟩
 intro i hinv
 refine A3 (A2 ?_)
 refine A1 rfl rfl rfl (K6 rfl (A0 rfl) (A0 rfl)) ?_
 refine A4 (A3 ?_)
 refine C7 (A0 rfl) ?_ ?_
 ·intro h9
  have k9 := of_decide_eq_true h9; try simp only [A6] at k9
  have hlt : i < s.Held.length := by omega
  obtain ⟨h, hx⟩ := get_some hlt
  obtain ⟨y, hy⟩ := get_some (show i - 1 < s.Held.length by omega)
  obtain ⟨g1, g2, g3, g4, g5⟩ := U2 hs2 hx
  refine D2 (A3 (D7 (A3 (A2 ?_))))
  refine A5 rfl rfl rfl rfl rfl ?_
  refine A1 rfl rfl rfl (I7 rfl C9 D3 (A0 rfl) (A0 rfl) hx (by first | omega | (simp only [A6, A7, B2, B7, A8, szR] at *; omega))) ?_
  refine A1 rfl rfl rfl (K4 rfl (A0 rfl) I0 D3) ?_
  refine G0 rfl rfl rfl rfl Tryz.zeroValue45 rfl ?_
  intro b4
  refine B9 rfl rfl rfl rfl rfl ?_
  refine D5 0 rfl rfl rfl (A0 rfl) (A0 rfl) (E2 _) rfl D3 rfl ?_
  refine A4 (A3 (A3 ?_))
  refine K3 (by kernel_rfl) (by kernel_rfl) rfl ?_
  refine B5 rfl rfl (F2 0 rfl (A0 rfl) rfl I0 D3 rfl) ?_
  refine B5 rfl rfl (E5 rfl Tryz.call182 rfl (Am9 _) (A9 (A0 rfl) D1)) ?_
  refine B5 rfl rfl (E5 rfl Tryz.call83 rfl (AP2 _ (by first | assumption | omega)) (A9 (A0 rfl) D1)) ?_
  refine B5 rfl rfl (M2 rfl (A0 rfl)) ?_
  refine B5 rfl rfl (C6 rfl (A0 rfl)) ?_
  refine E1 rfl (D4 rfl rfl rfl) (fun hc => B3 1 rfl F1 rfl C0 (A0 rfl) rfl) ?_
  refine E1 rfl (D4 rfl rfl rfl) (fun hc => B1 0 rfl (B0 rfl hc) rfl D0 rfl) ?_
  refine E1 rfl (D4 rfl rfl rfl) (fun hc => B3 0 rfl B8 rfl C0 (A0 rfl) rfl) ?_
  refine E1 rfl (D4 rfl rfl rfl) (fun hc => B1 1 rfl (B0 rfl hc) rfl D0 rfl) ?_
  refine E1 rfl (D4 rfl rfl rfl) (fun hc => P8 rfl (B0 rfl hc) (B0 rfl hc)) ?_
  refine B5 rfl rfl (Q4 rfl (A0 rfl) (G4 rfl)) ?_
  refine B5 rfl rfl (C6 rfl (A0 rfl)) ?_
  refine E1 rfl (D4 rfl rfl rfl) (fun hc => C6 rfl (A0 rfl)) ?_
  refine E1 rfl (D4 rfl rfl rfl) (fun hc => P8 rfl (B0 rfl hc) C4) ?_
  refine E1 rfl (D4 rfl rfl rfl) (fun hc => C6 rfl (B0 rfl hc)) ?_
  refine E1 rfl (E8 rfl rfl rfl) (fun hc => B3 0 rfl F1 rfl C0 (A0 rfl) rfl) ?_
  refine E1 rfl (E8 rfl rfl rfl) (fun hc => B1 0 rfl (B0 rfl hc) rfl D0 rfl) ?_
  refine E1 rfl (E8 rfl rfl rfl) (fun hc => B3 2 rfl B8 rfl E9 (A0 rfl) rfl) ?_
  refine E1 rfl (E8 rfl rfl rfl) (fun hc => B1 1 rfl (B0 rfl hc) rfl I3 rfl) ?_
  refine E1 rfl (E8 rfl rfl rfl) (fun hc => C6 rfl (A0 rfl)) ?_
  refine E1 rfl (E8 rfl rfl rfl) (fun hc => Q0 rfl (B0 rfl hc) C4 (by first | omega | ((try simp only [A6, A7, B2, B7, A8, szR] at *); omega) | (have hc2 := hc; simp only [Bool.and_eq_true, Bool.or_eq_true, Bool.or_eq_false_iff, Bool.and_eq_false_iff, Bool.not_eq_true', Bool.not_eq_false', decide_eq_true_eq, decide_eq_false_iff_not, beq_iff_eq, bne_iff_ne, A6, A7] at hc2; omega))) ?_
  refine E1 rfl (E8 rfl rfl rfl) (fun hc => I7 rfl C9 D3 (B0 rfl hc) (B0 rfl hc) hy (by first | omega | ((try simp only [A6, A7, B2, B7, A8, szR] at *); omega) | (have hc2 := hc; simp only [Bool.and_eq_true, Bool.or_eq_true, Bool.or_eq_false_iff, Bool.and_eq_false_iff, Bool.not_eq_true', Bool.not_eq_false', decide_eq_true_eq, decide_eq_false_iff_not, beq_iff_eq, bne_iff_ne, A6, A7] at hc2; omega))) ?_
  refine E1 rfl (E8 rfl rfl rfl) (fun hc => W7 rfl F1 rfl C0 (B0 rfl hc) rfl) ?_
  refine E1 rfl (E8 rfl rfl rfl) (fun hc => N6 rfl (B0 rfl hc) D0 rfl) ?_
  refine E1 rfl (E8 rfl rfl rfl) (fun hc => U5 rfl (B0 rfl hc) (B0 rfl hc)) ?_
  refine E1 rfl (D4 rfl rfl rfl) (fun hc => I6 rfl (B0 rfl hc) (S0 rfl hc)) ?_
  refine B5 rfl rfl (Q4 rfl (A0 rfl) (G4 rfl)) ?_
  refine O1 ?_
  refine C7 (A0 rfl) ?_ ?_
  ·intro h39
   have hfin : areHeld s = false := by (unfold areHeld; rw [Z4 hlt (by rw [AA2 hx hy, h39]; rfl)]; rfl)
   refine A3 (A2 ?_)
   refine A1 rfl rfl rfl (C3 rfl F4) ?_
   refine A4 ?_
   refine C8 ?_
   exact H9 rfl (C5 rfl (by first | exact congrArg AV.bool hfin.symm | exact congrArg AV.bool (by unfold areHeld; rw [hall]; rfl)))
  ·intro h39
   have hgr : goodRec (hRec h) = true := by (simp only [Bool.or_eq_false_iff, Bool.not_eq_false'] at h39; exact h39.1.1)
   have hwa := AD7 hgr
   have hwl : h.Writes.length ≤ 4611686018427387903 := by omega
   have hpre : ∀ g ∈ s.Held.take i, adj wLess g.Writes = true ∧ g.Writes.length ≤ 4611686018427387903 := fun g hm => by (obtain ⟨j, hj⟩ := List.getElem?_of_mem hm; have hjl := (List.getElem?_eq_some_iff.1 hj).1; rw [A7] at hjl; rw [List.getElem?_take_of_lt (by omega)] at hj; have k1 := U2 hs2 hj; exact ⟨AD7 (AT8 hj (hinv.2 j (by omega))).1, by omega⟩)
   refine D2 (A3 (A3 (A2 ?_)))
   refine A1 rfl rfl rfl (B3 2 rfl B8 rfl E9 (A0 rfl) rfl) ?_
   refine A1 rfl rfl rfl (B1 1 rfl (A0 rfl) rfl I3 rfl) ?_
   refine A5 rfl rfl rfl rfl rfl ?_
   refine A1 rfl rfl rfl (y8 rfl C9 D3 (A0 rfl) (A0 rfl) (by first | omega | (simp only [A6, A7, B2, B7, A8, szR] at *; omega)) (by first | omega | (simp only [A6, A7, B2, B7, A8, szR] at *; omega))) ?_
   refine A1 rfl rfl rfl (Aj1 rfl rfl (A9 (A0 rfl) D1)) ?_
   refine A1 rfl rfl rfl (V8 rfl Tryz.call183 rfl (r3 (s.Held.take i) (fun g => adj wLess g.Writes = true ∧ g.Writes.length ≤ 4611686018427387903) (fun g => clash h g) hpre) (G3 _) (N3 (evb (A0 rfl)) (N3 (AB4 (Aj8 0 (A0 rfl) rfl) (AI6 Tryz.call184 (fun g hg => Ah9 _ g (by first | assumption | omega) (by assumption) hg))) U3))) ?_
   refine A4 ?_
   refine C7 (A0 rfl) ?_ ?_
   ·intro h45
    have hfin : areHeld s = false := by (unfold areHeld; rw [Z4 hlt (by rw [AA2 hx hy, h45]; simp)]; rfl)
    refine A3 (A2 ?_)
    refine A1 rfl rfl rfl (C3 rfl F4) ?_
    refine A4 ?_
    refine C8 ?_
    exact H9 rfl (C5 rfl (by first | exact congrArg AV.bool hfin.symm | exact congrArg AV.bool (by unfold areHeld; rw [hall]; rfl)))
   ·intro h45
    refine D2 (A3 (A2 ?_))
    refine A1 rfl rfl rfl (B3 4 rfl F1 rfl K2 (A0 rfl) rfl) ?_
    refine A1 rfl rfl rfl (B1 0 rfl (A0 rfl) rfl L8 rfl) ?_
    refine A1 rfl rfl rfl (Aj1 rfl rfl (A9 (A0 rfl) (A9 (A0 rfl) D1))) ?_
    refine A1 rfl rfl rfl (V8 rfl Tryz.call186 rfl (g7 _ _ _ (by first | (intros; trivial) | assumption | (intros; first | trivial | (simp_all; done)))) (G3 _) (N3 (evb (A0 rfl)) (N3 (AB4 (Aj9 0 1 (A0 rfl) rfl rfl) (AI6 Tryz.call187 (fun w (_ : True) => Ai0 _ _ w (by assumption) (by first | assumption | omega)))) U3))) ?_
    refine A4 ?_
    refine C7 (A0 rfl) ?_ ?_
    ·intro h49
     have hfin : areHeld s = false := by (unfold areHeld; rw [Z4 hlt (by rw [AA2 hx hy, h49]; simp)]; rfl)
     refine A3 (A2 ?_)
     refine A1 rfl rfl rfl (C3 rfl F4) ?_
     refine A4 ?_
     refine C8 ?_
     exact H9 rfl (C5 rfl (by first | exact congrArg AV.bool hfin.symm | exact congrArg AV.bool (by unfold areHeld; rw [hall]; rfl)))
    ·intro h49
     refine D2 (A2 ?_)
     refine A1 rfl rfl rfl (G7 rfl (A0 rfl) C4 (by first | omega | (simp only [A6, A7, B2, B7, A8, szR] at *; omega))) ?_
     refine A5 rfl rfl rfl rfl rfl ?_
     refine A4 ?_
     refine L4 i (i + 1) ?_ ?_ (T9 1 ⟨rfl, rfl, rfl, rfl, trivial⟩)
     ·exact ⟨by omega, fun j hj => if hji : j < i then hinv.2 j hji else (by have e : j = i := (by omega); subst e; rw [AA2 hx hy, h39, h45, h49]; rfl)⟩
     ·omega
 ·intro h9
  have k9 := of_decide_eq_false h9; try simp only [A6] at k9
  have hge : s.Held.length ≤ i := by omega
  have hall : allB s.Held.length (heldAt s) = true := p7.2 fun j hj => hinv.2 j (by omega)
  refine H3 ?_
  refine A3 (A2 ?_)
  refine A1 rfl rfl rfl (F2 0 rfl (A0 rfl) rfl D6 C1 rfl) ?_
  refine A1 rfl rfl rfl (B3 2 rfl B8 rfl E9 (A0 rfl) rfl) ?_
  refine A1 rfl rfl rfl (B1 0 rfl (A0 rfl) rfl I3 rfl) ?_
  refine A1 rfl rfl rfl (E5 rfl Tryz.call188 rfl (Ag4 _ _ (by assumption) (by first | assumption | omega) (by first | assumption | omega)) (A9 (A0 rfl) (A9 (A0 rfl) D1))) ?_
  refine B9 rfl rfl rfl rfl rfl ?_
  refine A4 ?_
  refine C8 ?_
  exact H9 rfl (C5 rfl (by first | exact congrArg AV.bool hfin.symm | exact congrArg AV.bool (by unfold areHeld; rw [hall]; rfl)))
theorem Ac3 (h : THeld) (n : Int) : FSpec Tryz.prog 191 [AV.agg h.cs, AV.int n] (AV.int (hCmp n h)) := by
 refine E7 Tryz.func191 rfl Tryz.ntmps191 rfl ?_
 refine A3 (A2 ?_)
 refine M3 rfl rfl rfl rfl (A0 rfl) ?_
 intro b2
 refine A1 rfl rfl rfl (C3 rfl C4) ?_
 refine A4 (A3 (A2 ?_))
 refine A1 rfl rfl rfl (B3 0 rfl F1 rfl C0 (A0 rfl) rfl) ?_
 refine A1 rfl rfl rfl (B1 0 rfl (A0 rfl) rfl D0 rfl) ?_
 refine A5 rfl rfl rfl rfl rfl ?_
 refine A1 rfl rfl rfl (E5 rfl Tryz.call192 rfl (AT1 _ _) (A9 (A0 rfl) (A9 (A0 rfl) D1))) ?_
 refine B9 rfl rfl rfl rfl rfl ?_
 refine A4 ?_
 refine C8 ?_
 exact H9 rfl (C5 rfl (by first | rfl | (refine congrArg AV.bool ?_; simp_all; done)))
theorem Ac4 (h : TTold) (n : Int) : FSpec Tryz.prog 194 [AV.agg h.cs, AV.int n] (AV.int (tCmp n h)) := by
 refine E7 Tryz.func194 rfl Tryz.ntmps194 rfl ?_
 refine A3 (A2 ?_)
 refine M3 rfl rfl rfl rfl (A0 rfl) ?_
 intro b2
 refine A1 rfl rfl rfl (C3 rfl C4) ?_
 refine A4 (A3 (A2 ?_))
 refine A1 rfl rfl rfl (B3 0 rfl K0 rfl C0 (A0 rfl) rfl) ?_
 refine A1 rfl rfl rfl (B1 0 rfl (A0 rfl) rfl D0 rfl) ?_
 refine A5 rfl rfl rfl rfl rfl ?_
 refine A1 rfl rfl rfl (E5 rfl Tryz.call192 rfl (AT1 _ _) (A9 (A0 rfl) (A9 (A0 rfl) D1))) ?_
 refine B9 rfl rfl rfl rfl rfl ?_
 refine A4 ?_
 refine C8 ?_
 exact H9 rfl (C5 rfl (by first | rfl | (refine congrArg AV.bool ?_; simp_all; done)))
theorem An2 (f : Int) (c t : List (List AV)) (l : List THeld) (n : Int) (hs : l.length ≤ 1048576) : FSpec Tryz.prog 96 [AV.agg [AV.int f, AV.list 2 c, AV.list 5 (l.map THeld.cs), AV.list 3 t], AV.int n] (AV.tup [AV.int (hPos l n), AV.bool (hHas l n)]) := by
 refine E7 Tryz.func96 rfl Tryz.ntmps96 rfl ?_
 refine A3 (A2 ?_)
 refine M3 rfl rfl rfl rfl (A0 rfl) ?_
 intro b2
 refine A1 rfl rfl rfl (C3 rfl C4) ?_
 refine A1 rfl rfl rfl (C3 rfl F4) ?_
 refine A4 (A3 (A2 ?_))
 refine A1 rfl rfl rfl (B3 2 rfl B8 rfl E9 (A0 rfl) rfl) ?_
 refine A1 rfl rfl rfl (B1 0 rfl (A0 rfl) rfl I3 rfl) ?_
 refine A5 rfl rfl rfl rfl rfl ?_
 refine A1 rfl rfl rfl (E5 rfl Tryz.call190 rfl (AH5 _ _ _ (by first | (intros; trivial) | assumption | (intros; first | trivial | (simp_all; done))) _ (by omega)) (A9 (A0 rfl) (A9 (A0 rfl) (A9 (AQ6 Tryz.call191 (fun h n (_ : True) => Ac3 h n)) D1)))) ?_
 refine A1 rfl rfl rfl (F6 rfl (A0 rfl) rfl) ?_
 refine A1 rfl rfl rfl (F6 rfl (A0 rfl) rfl) ?_
 refine B9 rfl rfl rfl rfl rfl ?_
 refine B9 rfl rfl rfl rfl rfl ?_
 refine A4 ?_
 refine C8 ?_
 exact X2 rfl (by decide) (E6 (C5 rfl (by first | rfl | (refine congrArg AV.bool ?_; simp_all; done))) (E6 (C5 rfl (by first | rfl | (refine congrArg AV.bool ?_; simp_all; done))) K8))
theorem m9 (f : Int) (c h : List (List AV)) (l : List TTold) (n : Int) (hs : l.length ≤ 1048576) : FSpec Tryz.prog 97 [AV.agg [AV.int f, AV.list 2 c, AV.list 5 h, AV.list 3 (l.map TTold.cs)], AV.int n] (AV.tup [AV.int (tPos l n), AV.bool (tHas l n)]) := by
 refine E7 Tryz.func97 rfl Tryz.ntmps97 rfl ?_
 refine A3 (A2 ?_)
 refine M3 rfl rfl rfl rfl (A0 rfl) ?_
 intro b2
 refine A1 rfl rfl rfl (C3 rfl C4) ?_
 refine A1 rfl rfl rfl (C3 rfl F4) ?_
 refine A4 (A3 (A2 ?_))
 refine A1 rfl rfl rfl (B3 3 rfl B8 rfl J3 (A0 rfl) rfl) ?_
 refine A1 rfl rfl rfl (B1 0 rfl (A0 rfl) rfl O0 rfl) ?_
 refine A5 rfl rfl rfl rfl rfl ?_
 refine A1 rfl rfl rfl (E5 rfl Tryz.call193 rfl (AH6 _ _ _ (by first | (intros; trivial) | assumption | (intros; first | trivial | (simp_all; done))) _ (by omega)) (A9 (A0 rfl) (A9 (A0 rfl) (A9 (AQ6 Tryz.call194 (fun h n (_ : True) => Ac4 h n)) D1)))) ?_
 refine A1 rfl rfl rfl (F6 rfl (A0 rfl) rfl) ?_
 refine A1 rfl rfl rfl (F6 rfl (A0 rfl) rfl) ?_
 refine B9 rfl rfl rfl rfl rfl ?_
 refine B9 rfl rfl rfl rfl rfl ?_
 refine A4 ?_
 refine C8 ?_
 exact X2 rfl (by decide) (E6 (C5 rfl (by first | rfl | (refine congrArg AV.bool ?_; simp_all; done))) (E6 (C5 rfl (by first | rfl | (refine congrArg AV.bool ?_; simp_all; done))) K8))
theorem AA6 (s : TState) (n : Int) (hs : s.Held.length ≤ 1048576) : FSpec Tryz.prog 96 [AV.agg s.cs, AV.int n] (AV.tup [AV.int (hPos s.Held n), AV.bool (hHas s.Held n)]) := An2 _ _ _ s.Held n hs
theorem Ai1 (s : TState) (n : Int) (hs : s.Told.length ≤ 1048576) : FSpec Tryz.prog 97 [AV.agg s.cs, AV.int n] (AV.tup [AV.int (tPos s.Told n), AV.bool (tHas s.Told n)]) := m9 _ _ _ s.Told n hs
theorem AI0 (s : TState) (hs : s.size ≤ 1048576) : FSpec Tryz.prog 15 [AV.agg s.cs] (AV.bool (goodState s)) := by
 obtain ⟨hs1, hs2, hs3, hs4, hs5⟩ := R9 hs
 refine E7 Tryz.func15 rfl Tryz.ntmps15 rfl ?_
 refine A3 (A2 ?_)
 refine M3 rfl rfl rfl rfl (A0 rfl) ?_
 intro b1
 refine A1 rfl rfl rfl (C3 rfl F4) ?_
 refine A4 (A3 (A3 (A2 ?_)))
 refine A1 rfl rfl rfl (B3 0 rfl B8 rfl C0 (A0 rfl) rfl) ?_
 refine A1 rfl rfl rfl (B1 0 rfl (A0 rfl) rfl D0 rfl) ?_
 refine A1 rfl rfl rfl (E5 rfl Tryz.call90 rfl (AG1 _) (A9 (A0 rfl) D1)) ?_
 refine A1 rfl rfl rfl (M2 rfl (A0 rfl)) ?_
 refine A5 rfl rfl rfl rfl rfl ?_
 refine B4 rfl rfl (D4 rfl rfl rfl) (fun hc => B3 1 rfl B8 rfl M7 (A0 rfl) rfl) ?_
 refine B4 rfl rfl (D4 rfl rfl rfl) (fun hc => B1 0 rfl (B0 rfl hc) rfl P5 rfl) ?_
 refine B4 rfl rfl (D4 rfl rfl rfl) (fun hc => E5 rfl Tryz.call91 rfl (u3 _ (by first | assumption | omega)) (A9 (B0 rfl hc) D1)) ?_
 refine B4 rfl rfl (D4 rfl rfl rfl) (fun hc => M2 rfl (B0 rfl hc)) ?_
 refine A1 rfl rfl rfl (Q4 rfl (A0 rfl) (G4 rfl)) ?_
 refine A5 rfl rfl rfl rfl rfl ?_
 refine B4 rfl rfl (D4 rfl rfl rfl) (fun hc => F2 0 rfl (A0 rfl) rfl D6 C1 rfl) ?_
 refine B4 rfl rfl (D4 rfl rfl rfl) (fun hc => E5 rfl Tryz.call92 rfl (An1 s (by have h9 := hc; simp at h9; exact h9.2) hs) (A9 (B0 rfl hc) D1)) ?_
 refine B4 rfl rfl (D4 rfl rfl rfl) (fun hc => M2 rfl (B0 rfl hc)) ?_
 refine A1 rfl rfl rfl (Q4 rfl (A0 rfl) (G4 rfl)) ?_
 refine A5 rfl rfl rfl rfl rfl ?_
 refine B4 rfl rfl (D4 rfl rfl rfl) (fun hc => B3 3 rfl B8 rfl J3 (A0 rfl) rfl) ?_
 refine B4 rfl rfl (D4 rfl rfl rfl) (fun hc => B1 0 rfl (B0 rfl hc) rfl O0 rfl) ?_
 refine B4 rfl rfl (D4 rfl rfl rfl) (fun hc => G9 rfl E3 (B0 rfl hc)) ?_
 refine B4 rfl rfl (D4 rfl rfl rfl) (fun hc => P8 rfl (B0 rfl hc) C4) ?_
 refine A1 rfl rfl rfl (Q4 rfl (A0 rfl) (G4 rfl)) ?_
 refine A4 ?_
 refine C7 (A0 rfl) ?_ ?_
 ·intro h30
  have hfin : goodState s = false := by (unfold goodState; simp only [Bool.or_eq_true, Bool.not_eq_true', decide_eq_true_eq, A6] at h30; rcases h30 with ((h | h) | h) | h; (rw [h]; rfl); (rw [h]; simp); (rw [h]; simp); (rw [decide_eq_false (show ¬ s.Told.length ≤ 60 by omega)]; simp))
  refine A3 (A2 ?_)
  refine A1 rfl rfl rfl (C3 rfl F4) ?_
  refine A4 ?_
  refine C8 ?_
  exact H9 rfl (C5 rfl (by exact congrArg AV.bool hfin.symm))
 ·intro h30
  simp only [Bool.or_eq_false_iff, Bool.not_eq_false', decide_eq_false_iff_not, A6] at h30
  obtain ⟨⟨⟨q1, q2⟩, q3⟩, q4⟩ := h30
  have hco := V9 q2
  have hsrt := Am8 q3
  have hgs : goodState s = ((s.Cells.all fun c => decide (lastTime s.Cells c.Key ≤ s.Floor)) && allB s.Told.length (toldAt s)) := by (unfold goodState; rw [q1, q2, q3, decide_eq_true (show s.Told.length ≤ 60 by omega)]; simp)
  refine D2 (A3 (A3 (A2 ?_)))
  refine A1 rfl rfl rfl (B3 1 rfl B8 rfl M7 (A0 rfl) rfl) ?_
  refine A1 rfl rfl rfl (B1 0 rfl (A0 rfl) rfl P5 rfl) ?_
  refine A1 rfl rfl rfl (G9 rfl D8 (A0 rfl)) ?_
  refine A1 rfl rfl rfl (C6 rfl C4) ?_
  refine A4 (D7 ?_)
  refine J9 [(1, _), (32, _), (33, _)] _ (fun (i : Nat) => i ≤ s.Cells.length ∧ (s.Cells.all fun c => decide (lastTime s.Cells c.Key ≤ s.Floor)) = ((s.Cells.drop i).all fun c => decide (lastTime s.Cells c.Key ≤ s.Floor))) (fun (i : Nat) => []) (fun (i : Nat) => [(34, AV.int i)]) (fun (i : Nat) => s.Cells.length - i) (0) ?_ (J8 ⟨rfl, rfl, rfl, rfl, trivial⟩) ?_
  ·exact ⟨Nat.zero_le _, rfl⟩
  intro i hinv
  refine A3 (A2 ?_)
  refine A1 rfl rfl rfl (K6 rfl (A0 rfl) (A0 rfl)) ?_
  refine A4 (A3 ?_)
  refine C7 (A0 rfl) ?_ ?_
  ·intro h35
   have k35 := of_decide_eq_true h35; try simp only [A6] at k35
   have hlt : i < s.Cells.length := by omega
   obtain ⟨c, hx⟩ := get_some hlt
   refine D2 (A3 (D7 (A3 (A2 ?_))))
   refine A1 rfl rfl rfl (I7 rfl D8 F0 (A0 rfl) (A0 rfl) hx (by first | omega | (simp only [A6, A7, B2, B7, A8, szR] at *; omega))) ?_
   refine A1 rfl rfl rfl (K4 rfl (A0 rfl) S9 F0) ?_
   refine G0 rfl rfl rfl rfl Tryz.zeroValue142 rfl ?_
   intro b4
   refine D5 0 rfl rfl rfl (A0 rfl) (A0 rfl) (E2 _) rfl F0 rfl ?_
   refine A4 (A3 ?_)
   refine K3 (by kernel_rfl) (by kernel_rfl) rfl ?_
   refine B5 rfl rfl (B3 1 rfl B8 rfl M7 (A0 rfl) rfl) ?_
   refine B5 rfl rfl (B1 1 rfl (A0 rfl) rfl P5 rfl) ?_
   refine B5 rfl rfl (B3 0 rfl G5 rfl F5 (A0 rfl) rfl) ?_
   refine B5 rfl rfl (B1 0 rfl (A0 rfl) rfl H1 rfl) ?_
   refine B5 rfl rfl (E5 rfl Tryz.call93 rfl (AA5 _ _ (by first | assumption | exact V9 (by assumption)) (by first | assumption | omega)) (A9 (A0 rfl) (A9 (A0 rfl) D1))) ?_
   refine B5 rfl rfl (B3 0 rfl B8 rfl C0 (A0 rfl) rfl) ?_
   refine B5 rfl rfl (B1 1 rfl (A0 rfl) rfl D0 rfl) ?_
   refine B5 rfl rfl (P8 rfl (A0 rfl) (A0 rfl)) ?_
   refine O1 ?_
   refine C7 (A0 rfl) ?_ ?_
   ·intro h45
    have k45 := of_decide_eq_true h45; try simp only [A6] at k45
    have hfin : goodState s = false := by (rw [hgs, hinv.2, drop_some hx, List.all_cons, decide_eq_false (show ¬ lastTime s.Cells c.Key ≤ s.Floor by omega)]; rfl)
    refine A3 (A2 ?_)
    refine A1 rfl rfl rfl (C3 rfl F4) ?_
    refine A4 ?_
    refine C8 ?_
    exact H9 rfl (C5 rfl (by exact congrArg AV.bool hfin.symm))
   ·intro h45
    have k45 := of_decide_eq_false h45; try simp only [A6] at k45
    refine D2 (A2 ?_)
    refine A1 rfl rfl rfl (G7 rfl (A0 rfl) C4 (by first | omega | (simp only [A6, A7, B2, B7, A8, szR] at *; omega))) ?_
    refine A5 rfl rfl rfl rfl rfl ?_
    refine A4 ?_
    refine L4 i (i + 1) ?_ ?_ (T9 1 ⟨rfl, rfl, rfl, rfl, trivial⟩)
    ·exact ⟨by omega, by rw [hinv.2, drop_some hx, List.all_cons, decide_eq_true (show lastTime s.Cells c.Key ≤ s.Floor by omega)]; rfl⟩
    ·omega
  ·intro h35
   have k35 := of_decide_eq_false h35; try simp only [A6] at k35
   have hge : s.Cells.length ≤ i := by omega
   have hgs2 : goodState s = allB s.Told.length (toldAt s) := by (rw [hgs, hinv.2, List.drop_eq_nil_of_le hge]; rfl)
   refine H3 ?_
   refine A3 (A3 (A2 ?_))
   refine A1 rfl rfl rfl (B3 3 rfl B8 rfl J3 (A0 rfl) rfl) ?_
   refine A1 rfl rfl rfl (B1 0 rfl (A0 rfl) rfl O0 rfl) ?_
   refine A1 rfl rfl rfl (G9 rfl E3 (A0 rfl)) ?_
   refine A1 rfl rfl rfl (C6 rfl C4) ?_
   refine A4 (D7 ?_)
   refine J9 [(1, _), (48, _), (49, _)] _ (fun (q : Nat) => q ≤ s.Told.length ∧ ∀ j, j < q → toldAt s j = true) (fun (q : Nat) => []) (fun (q : Nat) => [(50, AV.int q)]) (fun (q : Nat) => s.Told.length - q) (0) ?_ (J8 ⟨rfl, rfl, rfl, rfl, trivial⟩) ?_
   ·exact ⟨Nat.zero_le _, fun j hj => by omega⟩
   intro q hinv
   refine A3 (A2 ?_)
   refine A1 rfl rfl rfl (K6 rfl (A0 rfl) (A0 rfl)) ?_
   refine A4 (A3 ?_)
   refine C7 (A0 rfl) ?_ ?_
   ·intro h51
    have k51 := of_decide_eq_true h51; try simp only [A6] at k51
    have hlt : q < s.Told.length := by omega
    obtain ⟨t, hx⟩ := get_some hlt
    obtain ⟨y, hy⟩ := get_some (show q - 1 < s.Told.length by omega)
    refine D2 (A3 (D7 (A3 (A2 ?_))))
    refine A5 rfl rfl rfl rfl rfl ?_
    refine A1 rfl rfl rfl (I7 rfl E3 H2 (A0 rfl) (A0 rfl) hx (by first | omega | (simp only [A6, A7, B2, B7, A8, szR] at *; omega))) ?_
    refine A1 rfl rfl rfl (K4 rfl (A0 rfl) V2 H2) ?_
    refine G0 rfl rfl rfl rfl Tryz.zeroValue39 rfl ?_
    intro b6
    refine B9 rfl rfl rfl rfl rfl ?_
    refine D5 0 rfl rfl rfl (A0 rfl) (A0 rfl) (E2 _) rfl H2 rfl ?_
    refine A4 (A3 (A2 ?_))
    refine A1 rfl rfl rfl (B3 1 rfl K0 rfl J4 (A0 rfl) rfl) ?_
    refine A1 rfl rfl rfl (B1 0 rfl (A0 rfl) rfl L0 rfl) ?_
    refine A5 rfl rfl rfl rfl rfl ?_
    refine B4 rfl rfl (C2 rfl rfl rfl) (fun hc => B3 2 rfl K0 rfl C0 (A0 rfl) rfl) ?_
    refine B4 rfl rfl (C2 rfl rfl rfl) (fun hc => B1 0 rfl (B0 rfl hc) rfl D0 rfl) ?_
    refine B4 rfl rfl (C2 rfl rfl rfl) (fun hc => B3 0 rfl B8 rfl C0 (A0 rfl) rfl) ?_
    refine B4 rfl rfl (C2 rfl rfl rfl) (fun hc => B1 1 rfl (B0 rfl hc) rfl D0 rfl) ?_
    refine B4 rfl rfl (C2 rfl rfl rfl) (fun hc => E5 rfl Tryz.call94 rfl (g6 _ _ _) (A9 (B0 rfl hc) (A9 C4 (A9 (B0 rfl hc) D1)))) ?_
    refine A1 rfl rfl rfl (I6 rfl (A0 rfl) (G4 rfl)) ?_
    refine A5 rfl rfl rfl rfl rfl ?_
    refine B4 rfl rfl (D4 rfl rfl rfl) (fun hc => B3 1 rfl K0 rfl J4 (A0 rfl) rfl) ?_
    refine B4 rfl rfl (D4 rfl rfl rfl) (fun hc => B1 0 rfl (B0 rfl hc) rfl L0 rfl) ?_
    refine B4 rfl rfl (D4 rfl rfl rfl) (fun hc => M2 rfl (B0 rfl hc)) ?_
    refine B4 rfl rfl (D4 rfl rfl rfl) (fun hc => C6 rfl (B0 rfl hc)) ?_
    refine B4 rfl rfl (E8 rfl rfl rfl) (fun hc => B3 2 rfl K0 rfl C0 (A0 rfl) rfl) ?_
    refine B4 rfl rfl (E8 rfl rfl rfl) (fun hc => B1 0 rfl (B0 rfl hc) rfl D0 rfl) ?_
    refine B4 rfl rfl (E8 rfl rfl rfl) (fun hc => M9 rfl (B0 rfl hc) C4) ?_
    refine B4 rfl rfl (D4 rfl rfl rfl) (fun hc => I6 rfl (B0 rfl hc) (S0 rfl hc)) ?_
    refine A1 rfl rfl rfl (Q4 rfl (A0 rfl) (G4 rfl)) ?_
    refine B9 rfl rfl rfl rfl rfl ?_
    refine A4 (A3 (A3 ?_))
    refine K3 (by kernel_rfl) (by kernel_rfl) rfl ?_
    refine B5 rfl rfl (B3 0 rfl K0 rfl C0 (A0 rfl) rfl) ?_
    refine B5 rfl rfl (B1 0 rfl (A0 rfl) rfl D0 rfl) ?_
    refine B5 rfl rfl (E5 rfl Tryz.call95 rfl (w8 _) (A9 (A0 rfl) D1)) ?_
    refine B5 rfl rfl (M2 rfl (A0 rfl)) ?_
    refine B5 rfl rfl (C6 rfl (A0 rfl)) ?_
    refine E1 rfl (D4 rfl rfl rfl) (fun hc => C6 rfl (A0 rfl)) ?_
    refine E1 rfl (D4 rfl rfl rfl) (fun hc => M2 rfl (B0 rfl hc)) ?_
    refine B5 rfl rfl (Q4 rfl (A0 rfl) (G4 rfl)) ?_
    refine B5 rfl rfl (C6 rfl (A0 rfl)) ?_
    refine E1 rfl (D4 rfl rfl rfl) (fun hc => C6 rfl (A0 rfl)) ?_
    refine E1 rfl (D4 rfl rfl rfl) (fun hc => P8 rfl (B0 rfl hc) C4) ?_
    refine E1 rfl (D4 rfl rfl rfl) (fun hc => C6 rfl (B0 rfl hc)) ?_
    refine E1 rfl (E8 rfl rfl rfl) (fun hc => B3 0 rfl K0 rfl C0 (A0 rfl) rfl) ?_
    refine E1 rfl (E8 rfl rfl rfl) (fun hc => B1 0 rfl (B0 rfl hc) rfl D0 rfl) ?_
    refine E1 rfl (E8 rfl rfl rfl) (fun hc => B3 3 rfl B8 rfl J3 (A0 rfl) rfl) ?_
    refine E1 rfl (E8 rfl rfl rfl) (fun hc => B1 1 rfl (B0 rfl hc) rfl O0 rfl) ?_
    refine E1 rfl (E8 rfl rfl rfl) (fun hc => C6 rfl (A0 rfl)) ?_
    refine E1 rfl (E8 rfl rfl rfl) (fun hc => Q0 rfl (B0 rfl hc) C4 (by first | omega | ((try simp only [A6, A7, B2, B7, A8, szR] at *); omega) | (have hc2 := hc; simp only [Bool.and_eq_true, Bool.or_eq_true, Bool.or_eq_false_iff, Bool.and_eq_false_iff, Bool.not_eq_true', Bool.not_eq_false', decide_eq_true_eq, decide_eq_false_iff_not, beq_iff_eq, bne_iff_ne, A6, A7] at hc2; omega))) ?_
    refine E1 rfl (E8 rfl rfl rfl) (fun hc => I7 rfl E3 H2 (B0 rfl hc) (B0 rfl hc) hy (by first | omega | ((try simp only [A6, A7, B2, B7, A8, szR] at *); omega) | (have hc2 := hc; simp only [Bool.and_eq_true, Bool.or_eq_true, Bool.or_eq_false_iff, Bool.and_eq_false_iff, Bool.not_eq_true', Bool.not_eq_false', decide_eq_true_eq, decide_eq_false_iff_not, beq_iff_eq, bne_iff_ne, A6, A7] at hc2; omega))) ?_
    refine E1 rfl (E8 rfl rfl rfl) (fun hc => W7 rfl K0 rfl C0 (B0 rfl hc) rfl) ?_
    refine E1 rfl (E8 rfl rfl rfl) (fun hc => N6 rfl (B0 rfl hc) D0 rfl) ?_
    refine E1 rfl (E8 rfl rfl rfl) (fun hc => U5 rfl (B0 rfl hc) (B0 rfl hc)) ?_
    refine E1 rfl (D4 rfl rfl rfl) (fun hc => I6 rfl (B0 rfl hc) (S0 rfl hc)) ?_
    refine B5 rfl rfl (Q4 rfl (A0 rfl) (G4 rfl)) ?_
    refine O1 ?_
    refine C7 (A0 rfl) ?_ ?_
    ·intro h97
     have hfin : goodState s = false := by (rw [hgs2]; exact Z4 hlt (by rw [AE7 hx hy, h97]; rfl))
     refine A3 (A2 ?_)
     refine A1 rfl rfl rfl (C3 rfl F4) ?_
     refine A4 ?_
     refine C8 ?_
     exact H9 rfl (C5 rfl (by exact congrArg AV.bool hfin.symm))
    ·intro h97
     refine D2 (A3 (A2 ?_))
     refine A1 rfl rfl rfl (F2 1 rfl (A0 rfl) rfl D6 C1 rfl) ?_
     refine A1 rfl rfl rfl (B3 0 rfl K0 rfl C0 (A0 rfl) rfl) ?_
     refine A1 rfl rfl rfl (B1 0 rfl (A0 rfl) rfl D0 rfl) ?_
     refine A1 rfl rfl rfl (E5 rfl Tryz.call96 rfl (AA6 _ _ (by first | assumption | omega)) (A9 (A0 rfl) (A9 (A0 rfl) D1))) ?_
     refine A5 rfl rfl rfl rfl rfl ?_
     refine A1 rfl rfl rfl (F6 rfl (A0 rfl) rfl) ?_
     refine A1 rfl rfl rfl (F6 rfl (A0 rfl) rfl) ?_
     refine B9 rfl rfl rfl rfl rfl ?_
     refine B9 rfl rfl rfl rfl rfl ?_
     refine A4 (A3 (A2 ?_))
     refine A5 rfl rfl rfl rfl rfl ?_
     refine A4 ?_
     refine C7 (A0 rfl) ?_ ?_
     ·intro h105
      have hfin : goodState s = false := by (rw [hgs2]; exact Z4 hlt (by rw [AE7 hx hy, ← r4 hsrt, h105]; simp))
      refine A3 (A2 ?_)
      refine A1 rfl rfl rfl (C3 rfl F4) ?_
      refine A4 ?_
      refine C8 ?_
      exact H9 rfl (C5 rfl (by exact congrArg AV.bool hfin.symm))
     ·intro h105
      refine D2 (A2 ?_)
      refine A1 rfl rfl rfl (G7 rfl (A0 rfl) C4 (by first | omega | (simp only [A6, A7, B2, B7, A8, szR] at *; omega))) ?_
      refine A5 rfl rfl rfl rfl rfl ?_
      refine A4 ?_
      refine L4 q (q + 1) ?_ ?_ (T9 1 ⟨rfl, rfl, rfl, rfl, trivial⟩)
      ·exact ⟨by omega, fun j hj => if hji : j < q then hinv.2 j hji else (by have e : j = q := (by omega); subst e; rw [AE7 hx hy, h97, ← r4 hsrt, h105]; rfl)⟩
      ·omega
   ·intro h51
    have k51 := of_decide_eq_false h51; try simp only [A6] at k51
    have hge : s.Told.length ≤ q := by omega
    have hfin : goodState s = true := by (rw [hgs2]; exact p7.2 fun j hj => hinv.2 j (by omega))
    refine H3 ?_
    refine A3 (A2 ?_)
    refine A1 rfl rfl rfl (C3 rfl F4) ?_
    refine A4 ?_
    refine C8 ?_
    exact H9 rfl (C5 rfl (by exact congrArg AV.bool hfin.symm))
end Go.Proofs.YtnlhbdkcgaeimaaGreat

set_option linter.unusedVariables false
set_option linter.unusedSimpArgs false
set_option maxRecDepth 100000
namespace Go.Proofs.YtnlhbdkcgaeimaaGreat
open Go Go.AV Go.M
attribute [local irreducible] OpW OpA OpS AWP FSpec ESpec GSpec OpE RetOk RetOkG RvDen Le Ev GuardIs
def TRec.ow (c : TRec) (x : Value × Value) : List Own := [.arr x.1 9 1 (c.Reads.map (fun x => [AV.str x])), .arr x.2 77 3 (c.Writes.map TWrite.cs)]
theorem TRec.lc (c : TRec) (x : Value × Value) : LendC (TRec.ow c x) (TRec.ocs c x) c.cs := (G8 L6 (G8 L6 (G8 L6 (G8 L6 (G8 (M6 (G6 (i := 0) rfl) J0) (G8 (M6 (G6 (i := 1) rfl) J0) (G8 L6 T8)))))))
def TPlaces.ow (c : TPlaces) (x : Value × Value) : List Own := [.arr x.1 9 1 (c.Cuts.map (fun x => [AV.str x])), .arr x.2 3 1 (c.Groups.map (fun x => [AV.int x]))]
theorem TPlaces.lc (c : TPlaces) (x : Value × Value) : LendC (TPlaces.ow c x) (TPlaces.ocs c x) c.cs := (G8 L6 (G8 (M6 (G6 (i := 0) rfl) J0) (G8 (M6 (G6 (i := 1) rfl) J0) T8)))
def TMove.ow (c : TMove) (x : Value × Value) : List Own := [.arr x.1 77 3 (c.From.map TWrite.cs), .arr x.2 77 3 (c.To.map TWrite.cs)]
theorem TMove.lc (c : TMove) (x : Value × Value) : LendC (TMove.ow c x) (TMove.ocs c x) c.cs := (G8 L6 (G8 L6 (G8 L6 (G8 (M6 (G6 (i := 0) rfl) J0) (G8 (M6 (G6 (i := 1) rfl) J0) (G8 L6 (G8 L6 T8)))))))
end Go.Proofs.YtnlhbdkcgaeimaaGreat

set_option linter.unusedVariables false
set_option linter.unusedSimpArgs false
set_option maxRecDepth 100000
namespace Go.AV
section
variable {T X : Type} {cs : T → List AV} {ocs : T → X → List AV} {ow : T → X → List Own}
theorem BA8 {l : List T} {xs : List X} {i : Nat} {p : T} {x : X} (hi : i ≤ l.length) (h : xs.length = l.length) : (nrows ocs l xs).take i ++ ocs p x :: (nrows ocs l xs).drop i = nrows ocs (l.take i ++ p :: l.drop i) (xs.take i ++ x :: xs.drop i) := by
  unfold nrows
  rw [List.zipWith_append (by rw [A7, A7]; omega), List.zipWith_cons_cons, List.take_zipWith, List.drop_zipWith]
theorem nin_ins {l : List T} {xs : List X} {i : Nat} {p : T} {x : X} (hi : i ≤ l.length) (h : xs.length = l.length) : (ow p x ++ nin ow l xs).Perm (nin ow (l.take i ++ p :: l.drop i) (xs.take i ++ x :: xs.drop i)) := by
  have e : nin ow l xs = nin ow (l.take i) (xs.take i) ++ nin ow (l.drop i) (xs.drop i) := by
    unfold nin
    rw [← List.flatten_append, ← List.zipWith_append (by rw [A7, A7]; omega), List.take_append_drop, List.take_append_drop]
  have e2 : nin ow (l.take i ++ p :: l.drop i) (xs.take i ++ x :: xs.drop i) = nin ow (l.take i) (xs.take i) ++ (ow p x ++ nin ow (l.drop i) (xs.drop i)) := by
    unfold nin
    rw [List.zipWith_append (by rw [A7, A7]; omega), List.zipWith_cons_cons, List.flatten_append, List.flatten_cons]
  rw [e, e2, ← List.append_assoc, ← List.append_assoc]
  exact List.Perm.append_right _ List.perm_append_comm
theorem An3 {X : Type} {xs : List X} {i : Nat} {x : X} (hi : i ≤ xs.length) : (xs.take i ++ x :: xs.drop i).length = xs.length + 1 := by
  rw [J1, B2, A7, List.length_drop]; omega
end
end Go.AV
namespace Go.Proofs.YtnlhbdkcgaeimaaGreat
open Go Go.AV Go.M
attribute [local irreducible] OpW OpA OpS AWP FSpec ESpec GSpec OpE RetOk RetOkG RvDen Le Ev GuardIs SrcIs
def TCell.ow (c : TCell) (x : Value) : List Own := [.arr x 197 3 (c.Vers.map TVer.cs)]
theorem TCell.lcM {own : List Own} (c : TCell) (x : Value) (h : ∀ o ∈ TCell.ow c x, o ∈ own) : LendC own (TCell.ocs c x) c.cs := G8 L6 (G8 (M6 (h _ (G6 (i := 0) rfl)) J0) T8)
theorem Ax0 {l : List TCell} {xs : List Value} {p : TCell} {x : Value} {i : Nat} (hp : l[i]? = some p) (h : xs.length = i) : nrows TCell.ocs (l.take i) xs ++ TCell.ocs p x :: (l.drop (i + 1)).map TCell.cs = nrows TCell.ocs (l.take (i + 1)) (xs ++ [x]) ++ (l.drop (i + 1)).map TCell.cs := by
  rw [← AY2 hp h, List.append_assoc]; rfl
theorem Ac5 (v vv : Value) (l : List (List AV)) (x : List AV) (hx2 : x.length = 2) (hl2 : ∀ r ∈ l, r.length = 2) (i : Nat) (hi : i ≤ l.length) (hl : l.length ≤ 4194304) : GSpec Tryz.prog 285 [AV.is v, AV.int i, AV.is vv] [.arr v 142 2 (l.map id), .arr vv 142 2 [id x]] (fun _ : Value => True) (fun v => [.arr v 142 2 ((l.take i ++ x :: l.drop i).map id)]) (fun v => AV.is v) := by
 have hn : (l.map id).length = l.length := A6 _
 have h1 : ([id x] : List (List AV)).length = 1 := rfl
 have e28 : ((l.map id).length : Int) + (([id x] : List (List AV)).length : Int) = ((l.length + 1 : Nat) : Int) := by rw [hn, h1]; rfl
 have e49 : (i : Int) + (([id x] : List (List AV)).length : Int) = ((i + 1 : Nat) : Int) := by rw [h1]; rfl
 have e39 : ((l.length + 1 : Nat) : Int) - (i : Int) = ((l.length + 1 - i : Nat) : Int) := by omega
 refine H5 Tryz.func285 rfl Tryz.ntmps285 rfl ?_
 refine f6 0 rfl ?_ ?_
 ·intro hv hes; subst hv
  have hl0 : l = [] := by cases l with | nil => rfl | cons y l => (simp at hes)
  subst hl0
  have hi0 : i = 0 := by simpa using hi
  subst hi0
  refine f6 1 rfl (fun _ h => by cases h) ?_
  intro gv cv hvv _ _
  subst hvv
  refine A3 (A2 ?_)
  refine A1 rfl rfl rfl (C3 rfl K5) ?_
  refine A4 (A3 (A2 ?_))
  refine A5 rfl rfl rfl rfl rfl ?_
  refine A5 rfl rfl rfl rfl rfl ?_
  refine A1 rfl rfl rfl (AQ9 0 rfl D8 F0 (A0 rfl) rfl (A0 rfl) (by first | omega | (simp only [A6, A7, B2, B7, A8, szR] at *; omega)) (by first | omega | (simp only [A6, A7, B2, B7, A8, szR] at *; omega))) ?_
  refine A4 (A3 (A2 ?_))
  refine A5 rfl rfl rfl rfl rfl ?_
  refine A1 rfl rfl rfl (l6 rfl D8 (A0 rfl)) ?_
  refine B9 rfl rfl rfl rfl rfl ?_
  refine A4 (A3 (A3 (A2 ?_)))
  refine A5 rfl rfl rfl rfl rfl ?_
  refine A1 rfl rfl rfl (M9 rfl (A0 rfl) C4) ?_
  refine A4 ?_
  refine C7 (A0 rfl) ?_ ?_
  ·intro h16
   have k16 := L3 h16; try simp only [A6] at k16
   rw [h1] at k16; omega
  ·intro h16
   have k16 := L2 h16; try simp only [A6] at k16
   refine D2 (A3 (A2 ?_))
   refine A5 rfl rfl rfl rfl rfl ?_
   refine A1 rfl rfl rfl (U9 0 rfl D8 (A0 rfl) rfl) ?_
   refine B9 rfl rfl rfl rfl rfl ?_
   refine A4 (A3 (A3 (A2 ?_)))
   refine A5 rfl rfl rfl rfl rfl ?_
   refine A5 rfl rfl rfl rfl rfl ?_
   refine A1 rfl rfl rfl (M9 rfl (A0 rfl) (A0 rfl)) ?_
   refine A4 ?_
   refine C7 (A0 rfl) ?_ ?_
   ·intro h22
    have k22 := L3 h22; try simp only [A6] at k22
    refine A3 (A2 ?_)
    refine A5 rfl rfl rfl rfl rfl ?_
    refine A5 rfl rfl rfl rfl rfl ?_
    refine n7 (by' := 40) 0 rfl rfl rfl rfl D8 Tryz.type142 rfl rfl rfl rfl rfl rfl (A0 rfl) (Z2 1 rfl (A0 rfl)) (by simp) rfl (by simp only [A6, B2, B7]; omega) ?_
    intro v25
    refine B9 rfl rfl rfl rfl rfl ?_
    refine A4 ?_
    refine C8 ?_
    exact K1 [0] v25 (trivial) rfl (by exact congrArg (fun z => [Own.arr _ 142 2 z]) (by first | exact c5 hi (by simp) | exact Y6 (by omega) | (have hil : i = l.length := (by omega); subst hil; simp; done) | (simp; done))) (N1 rfl (C5 rfl (by first | rfl | (rw [hn]))))
   ·intro h22
    have k22 := L2 h22; try simp only [A6] at k22
    exact absurd rfl k22
 ·intro g cap hv hlc hcm; subst hv
  refine f6 1 rfl (fun _ h => by cases h) ?_
  intro gv cv hvv _ _
  subst hvv
  refine A3 (A2 ?_)
  refine A1 rfl rfl rfl (C3 rfl K5) ?_
  refine A4 (A3 (A2 ?_))
  refine A5 rfl rfl rfl rfl rfl ?_
  refine A5 rfl rfl rfl rfl rfl ?_
  refine A1 rfl rfl rfl (W4 rfl D8 F0 (A0 rfl) (A0 rfl) (by first | omega | (simp only [A6, A7, B2, B7, A8, szR] at *; omega)) (by first | omega | (simp only [A6, A7, B2, B7, A8, szR] at *; omega))) ?_
  refine A4 (A3 (A2 ?_))
  refine A5 rfl rfl rfl rfl rfl ?_
  refine A1 rfl rfl rfl (l6 rfl D8 (A0 rfl)) ?_
  refine B9 rfl rfl rfl rfl rfl ?_
  refine A4 (A3 (A3 (A2 ?_)))
  refine A5 rfl rfl rfl rfl rfl ?_
  refine A1 rfl rfl rfl (M9 rfl (A0 rfl) C4) ?_
  refine A4 ?_
  refine C7 (A0 rfl) ?_ ?_
  ·intro h16
   have k16 := L3 h16; try simp only [A6] at k16
   rw [h1] at k16; omega
  ·intro h16
   have k16 := L2 h16; try simp only [A6] at k16
   refine D2 (A3 (A2 ?_))
   refine A5 rfl rfl rfl rfl rfl ?_
   refine A1 rfl rfl rfl (l6 rfl D8 (A0 rfl)) ?_
   refine B9 rfl rfl rfl rfl rfl ?_
   refine A4 (A3 (A3 (A2 ?_)))
   refine A5 rfl rfl rfl rfl rfl ?_
   refine A5 rfl rfl rfl rfl rfl ?_
   refine A1 rfl rfl rfl (M9 rfl (A0 rfl) (A0 rfl)) ?_
   refine A4 ?_
   refine C7 (A0 rfl) ?_ ?_
   ·intro h22
    have k22 := L3 h22; try simp only [A6] at k22
    refine A3 (A2 ?_)
    refine A5 rfl rfl rfl rfl rfl ?_
    refine A5 rfl rfl rfl rfl rfl ?_
    refine n7 (by' := 40) 0 rfl rfl rfl rfl D8 Tryz.type142 rfl rfl rfl rfl rfl rfl (A0 rfl) (Z2 1 rfl (A0 rfl)) (by simp) rfl (by simp only [A6, B2, B7]; omega) ?_
    intro v25
    refine B9 rfl rfl rfl rfl rfl ?_
    refine A4 ?_
    refine C8 ?_
    exact K1 [0] v25 (trivial) rfl (by exact congrArg (fun z => [Own.arr _ 142 2 z]) (by first | exact c5 hi (by simp) | exact Y6 (by omega) | (have hil : i = l.length := (by omega); subst hil; simp; done) | (simp; done))) (N1 rfl (C5 rfl (by first | rfl | (rw [hn]))))
   ·intro h22
    have k22 := L2 h22; try simp only [A6] at k22
    refine D2 (A3 (A3 (A2 ?_)))
    refine A5 rfl rfl rfl rfl rfl ?_
    refine A5 rfl rfl rfl rfl rfl ?_
    refine A1 rfl rfl rfl (G7 rfl (A0 rfl) (A0 rfl) (by first | omega | (simp only [A6, A7, B2, B7, A8, szR] at *; omega))) ?_
    rw [e28]
    refine A5 rfl rfl rfl rfl rfl ?_
    refine A1 rfl rfl rfl (Ak4 rfl D8 (A0 rfl)) ?_
    refine A1 rfl rfl rfl (P8 rfl (A0 rfl) (A0 rfl)) ?_
    refine A4 ?_
    refine C7 (A0 rfl) ?_ ?_
    ·intro h31
     have k31 := of_decide_eq_true h31; try simp only [A6] at k31
     refine A3 (A2 ?_)
     refine A5 rfl rfl rfl rfl rfl ?_
     refine A5 rfl rfl rfl rfl rfl ?_
     refine A1 rfl rfl rfl (AJ2 rfl D8 F0 (A0 rfl) (A0 rfl) (by omega) (by rw [hn] at hlc; omega)) ?_
     refine A5 rfl rfl rfl rfl rfl ?_
     refine A5 rfl rfl rfl rfl rfl ?_
     refine A1 rfl rfl rfl (G7 rfl (A0 rfl) (A0 rfl) (by first | omega | (simp only [A6, A7, B2, B7, A8, szR] at *; omega))) ?_
     rw [e28]
     refine A5 rfl rfl rfl rfl rfl ?_
     refine A1 rfl rfl rfl (Q0 rfl (A0 rfl) (A0 rfl) (by first | omega | (simp only [A6, A7, B2, B7, A8, szR] at *; omega))) ?_
     rw [e39, Int.toNat_natCast]
     refine AJ3 (by' := 40) (j := i) (m := l.length + 1 - i) 0 rfl rfl rfl rfl D8 Q6 Tryz.type142 rfl rfl rfl rfl rfl rfl (A0 rfl) (A0 rfl) rfl (by rw [hn]; exact hi) (by omega) (by omega) (by omega) (by omega) ?_
     intro g2 cap2 hcap2
     refine B9 rfl rfl rfl rfl rfl ?_
     refine A4 (A3 (A2 ?_))
     refine A5 rfl rfl rfl rfl rfl ?_
     refine A5 rfl rfl rfl rfl rfl ?_
     refine A1 rfl rfl rfl (W4 rfl D8 F0 (A0 rfl) (A0 rfl) (by first | omega | (simp only [A6, A7, B2, B7, A8, szR] at *; omega)) (by first | omega | (simp only [A6, A7, B2, B7, A8, szR] at *; omega))) ?_
     refine A5 rfl rfl rfl rfl rfl ?_
     rw [Int.toNat_natCast]
     refine n6 (k := i) 0 rfl rfl rfl rfl D8 Tryz.type142 rfl (A0 rfl) (Z2 2 rfl (A0 rfl)) rfl (by rw [h1]; omega) (by rw [h1]; omega) hcap2 (by simp) ?_
     refine A4 (A3 ?_)
     refine P9 8 (by kernel_rfl) (by kernel_rfl) rfl ?_
     refine B5 rfl rfl (C6 rfl (A0 rfl)) ?_
     refine B5 rfl rfl (C6 rfl (A0 rfl)) ?_
     refine B5 rfl rfl (C6 rfl (A0 rfl)) ?_
     refine B5 rfl rfl (G7 rfl (A0 rfl) (A0 rfl) (by first | omega | (simp only [A6, A7, B2, B7, A8, szR] at *; omega))) ?_
     rw [e49]
     refine B5 rfl rfl (W4 rfl D8 F0 (A0 rfl) (A0 rfl) (by first | omega | (simp only [A6, A7, B2, B7, A8, szR] at *; omega)) (by first | omega | (simp only [A6, A7, B2, B7, A8, szR] at *; omega))) ?_
     refine B5 rfl rfl (C6 rfl (A0 rfl)) ?_
     refine B5 rfl rfl (C6 rfl (A0 rfl)) ?_
     refine B5 rfl rfl (W4 rfl D8 F0 (A0 rfl) (A0 rfl) (by first | omega | (simp only [A6, A7, B2, B7, A8, szR] at *; omega)) (by first | omega | (simp only [A6, A7, B2, B7, A8, szR] at *; omega))) ?_
     refine O1 ?_
     simp only [Int.toNat_natCast]
     refine n6 (k := i + 1) 0 rfl rfl rfl rfl D8 Tryz.type142 rfl (A0 rfl) (AR0 1 rfl (A0 rfl)) rfl (by rw [List.length_drop, hn]; omega) (by rw [List.length_drop, hn]; omega) hcap2 (by intro h; have := congrArg List.length h; rw [List.length_drop, hn] at this; simp at this; omega) ?_
     refine A4 (A3 (A2 ?_))
     refine A5 rfl rfl rfl rfl rfl ?_
     refine B9 rfl rfl rfl rfl rfl ?_
     refine A4 ?_
     refine C8 ?_
     exact K1 [0] (slv g2 (i + (l.length + 1 - i)) cap2) (trivial) rfl (by exact congrArg (fun z => [Own.arr _ 142 2 z]) (by first | exact c5 hi (by simp) | exact Y6 (by omega) | (have hil : i = l.length := (by omega); subst hil; simp; done) | (simp; done))) (N1 rfl (C5 rfl (by first | rfl | (rw [hn]))))
    ·intro h31
     have k31 := of_decide_eq_false h31; try simp only [A6] at k31
     refine D2 (A3 (A2 ?_))
     refine A5 rfl rfl rfl rfl rfl ?_
     refine A5 rfl rfl rfl rfl rfl ?_
     refine A5 rfl rfl rfl rfl rfl ?_
     refine A1 rfl rfl rfl (G7 rfl (A0 rfl) (A0 rfl) (by first | omega | (simp only [A6, A7, B2, B7, A8, szR] at *; omega))) ?_
     rw [e28]
     refine A1 rfl rfl rfl (AJ2 rfl D8 F0 (A0 rfl) (A0 rfl) (by first | omega | (simp only [A6, A7, B2, B7, A8, szR] at *; omega)) (by first | omega | (simp only [A6, A7, B2, B7, A8, szR] at *; omega))) ?_
     rw [Int.toNat_natCast]
     refine B9 rfl rfl rfl rfl rfl ?_
     refine A4 (A3 (A3 (A2 ?_)))
     refine A5 rfl rfl rfl rfl rfl ?_
     refine A5 rfl rfl rfl rfl rfl ?_
     refine A5 rfl rfl rfl rfl rfl ?_
     refine A5 rfl rfl rfl rfl rfl ?_
     refine A1 rfl rfl rfl (G7 rfl (A0 rfl) (A0 rfl) (by first | omega | (simp only [A6, A7, B2, B7, A8, szR] at *; omega))) ?_
     rw [e49]
     refine A1 rfl rfl rfl (W4 rfl D8 F0 (A0 rfl) (A0 rfl) (by first | omega | (simp only [A6, A7, B2, B7, A8, szR] at *; omega)) (by first | omega | (simp only [A6, A7, B2, B7, A8, szR] at *; omega))) ?_
     rw [Int.toNat_natCast]
     refine A1 rfl rfl rfl (AF6 (tb := 4) 1 0 rfl Tryz.func308 (by kernel_rfl) (by kernel_rfl) (by kernel_rfl) (by kernel_rfl) D8 F0 (A0 rfl) (A0 rfl) rfl rfl rfl (by omega) rfl) ?_
     refine A1 rfl rfl rfl (M2 rfl (A0 rfl)) ?_
     refine A4 ?_
     refine C7 (A0 rfl) ?_ ?_
     ·intro h68
      refine A3 ?_
      refine P9 8 (by kernel_rfl) (by kernel_rfl) rfl ?_
      refine B5 rfl rfl (C6 rfl (A0 rfl)) ?_
      refine B5 rfl rfl (C6 rfl (A0 rfl)) ?_
      refine B5 rfl rfl (C6 rfl (A0 rfl)) ?_
      refine B5 rfl rfl (G7 rfl (A0 rfl) (A0 rfl) (by first | omega | (simp only [A6, A7, B2, B7, A8, szR] at *; omega))) ?_
      rw [e49]
      refine B5 rfl rfl (W4 rfl D8 F0 (A0 rfl) (A0 rfl) (by first | omega | (simp only [A6, A7, B2, B7, A8, szR] at *; omega)) (by first | omega | (simp only [A6, A7, B2, B7, A8, szR] at *; omega))) ?_
      refine B5 rfl rfl (C6 rfl (A0 rfl)) ?_
      refine B5 rfl rfl (C6 rfl (A0 rfl)) ?_
      refine B5 rfl rfl (W4 rfl D8 F0 (A0 rfl) (A0 rfl) (by first | omega | (simp only [A6, A7, B2, B7, A8, szR] at *; omega)) (by first | omega | (simp only [A6, A7, B2, B7, A8, szR] at *; omega))) ?_
      refine O1 ?_
      simp only [Int.toNat_natCast]
      refine AV1 (k := i) (len := (l.map id).length) 0 rfl rfl rfl rfl D8 Tryz.type142 rfl (by rw [hn]; exact A0 rfl) (by rw [hn]; exact A0 rfl) rfl (by omega) (by omega) ?_
      intro j77
      refine A4 (A3 (A2 ?_))
      refine A5 rfl rfl rfl rfl rfl ?_
      refine A5 rfl rfl rfl rfl rfl ?_
      refine A1 rfl rfl rfl (W4 rfl D8 F0 (A0 rfl) (A0 rfl) (by first | omega | (simp only [A6, A7, B2, B7, A8, szR] at *; omega)) (by first | omega | (simp only [A6, A7, B2, B7, A8, szR] at *; omega))) ?_
      refine A5 rfl rfl rfl rfl rfl ?_
      rw [Int.toNat_natCast]
      refine n6 (k := i) 0 rfl rfl rfl rfl D8 Tryz.type142 rfl (A0 rfl) (Z2 1 rfl (A0 rfl)) rfl (by rw [h1, hn]; omega) (by rw [h1]; omega) (by omega) (by simp) ?_
      refine A4 (A3 (A2 ?_))
      refine A5 rfl rfl rfl rfl rfl ?_
      refine B9 rfl rfl rfl rfl rfl ?_
      refine A4 ?_
      refine C8 ?_
      exact K1 [0] (slv g ((l.map id).length + 1) cap) (trivial) rfl (by exact congrArg (fun z => [Own.arr _ 142 2 z]) (by first | exact c5 hi (by simp) | exact Y6 (by omega) | (have hil : i = l.length := (by omega); subst hil; simp; done) | (simp; done))) (N1 rfl (C5 rfl (by first | rfl | (rw [hn]))))
     ·intro h68
      cases h68

theorem AL4 (l : List TCell) (hs : sizeL TCell.size l ≤ 4194304) : GSpec Tryz.prog 253 [AV.list 2 (l.map TCell.cs)] [] (fun x : Value × List Value => x.2.length = l.length) (fun x => .arr x.1 142 2 (nrows TCell.ocs l x.2) :: nin TCell.ow l x.2) (fun x => AV.is x.1) := by
 have hl : l.length ≤ 4194304 := Nat.le_trans O2 hs
 refine H5 Tryz.func253 rfl Tryz.ntmps253 rfl ?_
 refine A3 (A2 ?_)
 refine A1 rfl rfl rfl (C3 rfl K5) ?_
 refine A4 (A3 (A2 ?_))
 refine A5 rfl rfl rfl rfl rfl ?_
 refine I2 [] rfl rfl rfl rfl Tryz.call283 rfl (Ab7 _ (by first | assumption | omega)) (A9 (A0 rfl) D1) rfl ?_
 intro x6 ok6
 refine B9 rfl rfl rfl rfl rfl ?_
 refine A4 (A3 (A3 (A2 ?_)))
 refine A5 rfl rfl rfl rfl rfl ?_
 refine A1 rfl rfl rfl (U9 0 rfl D8 (A0 rfl) rfl) ?_
 refine A1 rfl rfl rfl (C6 rfl C4) ?_
 refine A4 (D7 ?_)
 refine R8 [(2, _), (3, _), (8, _)] [] (fun (i : Nat) (xs : List Value) => i ≤ l.length ∧ xs.length = i) (fun (i : Nat) (xs : List Value) => [.arr x6 142 2 (nrows TCell.ocs (l.take i) xs ++ (l.drop i).map TCell.cs)] ++ (nin TCell.ow (l.take i) xs)) (fun (i : Nat) (xs : List Value) => [(9, AV.int i)]) (fun (i : Nat) (xs : List Value) => l.length - i) (0) ([]) ?_ (S7 (by rfl) ⟨rfl, rfl, rfl, rfl, trivial⟩) ?_
 ·exact ⟨Nat.zero_le _, rfl⟩
 intro i xs hinv
 refine L1 (List.append_nil _) ?_
 refine A3 (A2 ?_)
 refine A1 rfl rfl rfl (K6 rfl (A0 rfl) (A0 rfl)) ?_
 refine A4 (A3 ?_)
 refine C7 (A0 rfl) ?_ ?_
 ·intro h10
  have k10 := of_decide_eq_true h10; try simp only [A6] at k10
  have hlt : i < l.length := by omega
  obtain ⟨x, hx⟩ := get_some hlt
  have hsx := d5 (Nat.le_trans (V6 hx) hs)
  rw [drop_some hx, List.map_cons]
  refine D2 (A3 (D7 (A3 (A2 ?_))))
  refine A5 rfl rfl rfl rfl rfl ?_
  refine B9 rfl rfl rfl rfl rfl ?_
  refine A4 (A2 ?_)
  refine A5 rfl rfl rfl rfl rfl ?_
  refine A5 rfl rfl rfl rfl rfl ?_
  refine A5 rfl rfl rfl rfl rfl ?_
  refine A5 rfl rfl rfl rfl rfl ?_
  refine A1 rfl rfl rfl (U4 0 rfl D8 F0 (A0 rfl) rfl (A0 rfl) (by omega) (by rw [J1, B2, a7 (by rw [hinv.2, A7]; omega), A7]; omega)) ?_
  refine A1 rfl rfl rfl (i0 0 rfl G5 rfl M0 (A0 rfl) rfl rfl (c0 (show (nrows TCell.ocs (l.take i) xs).length = i by rw [a7 (by rw [hinv.2, A7]; omega), A7]; omega))) ?_
  refine A1 rfl rfl rfl (m6 0 rfl (A0 rfl) rfl P4 (c0 (show (nrows TCell.ocs (l.take i) xs).length = i by rw [a7 (by rw [hinv.2, A7]; omega), A7]; omega)) rfl) ?_
  refine I2 [] rfl rfl rfl rfl Tryz.call284 rfl (Ah5 _ (by first | assumption | omega)) (A9 (A0 rfl) D1) rfl ?_
  intro x19 ok19
  refine A1 rfl rfl rfl (U4 1 rfl D8 F0 (A0 rfl) rfl (A0 rfl) (by omega) (by rw [J1, B2, a7 (by rw [hinv.2, A7]; omega), A7]; omega)) ?_
  refine A1 rfl rfl rfl (i0 1 rfl G5 rfl M0 (A0 rfl) rfl rfl (c0 (show (nrows TCell.ocs (l.take i) xs).length = i by rw [a7 (by rw [hinv.2, A7]; omega), A7]; omega))) ?_
  refine Q8 0 rfl fun one_x19 => ?_
  refine r5 1 rfl rfl rfl (A0 rfl) (A0 rfl) (Q9 one_x19) rfl M0 (show (nrows TCell.ocs (l.take i) xs).length = i by rw [a7 (by rw [hinv.2, A7]; omega), A7]; omega) rfl ?_
  refine A4 ?_
  refine AWP.le (I8 [1, 0] rfl) ?_
  refine AWP.le (l9 1 (t := nin TCell.ow (l.take (i + 1)) (xs ++ [x19])) (Al6 (ow := TCell.ow) (x := x19) hx hinv.2)) ?_
  refine A2 ?_
  refine A1 rfl rfl rfl (G7 rfl (A0 rfl) C4 (by first | omega | (simp only [A6, A7, B2, B7, A8, szR] at *; omega))) ?_
  refine A5 rfl rfl rfl rfl rfl ?_
  refine A4 ?_
  refine Q1 i xs (i + 1) (xs ++ [x19]) ?_ ?_ (S7 (Eq.trans (by exact congrArg (fun z => Own.arr _ _ _ z :: _) (Ax0 hx hinv.2)) (List.append_nil _).symm) ⟨rfl, rfl, rfl, rfl, trivial⟩)
  ·exact ⟨by omega, by rw [J1, hinv.2]; rfl⟩
  ·omega
 ·intro h10
  have k10 := of_decide_eq_false h10; try simp only [A6] at k10
  have hge : i = l.length := by omega
  have hxs := hinv.2.trans hge
  rw [show l.take i = l from List.take_of_length_le (by omega), show l.drop i = [] from List.drop_eq_nil_of_le (by omega), List.map_nil, List.append_nil]
  refine H3 ?_
  refine A3 (A2 ?_)
  refine A5 rfl rfl rfl rfl rfl ?_
  refine B9 rfl rfl rfl rfl rfl ?_
  refine A4 ?_
  refine C8 ?_
  exact p4 [0] 0 (nin TCell.ow l xs) [] (x6, xs) (hxs) rfl (show List.Perm (nin TCell.ow l xs) ((nin TCell.ow l xs) ++ []) from c6) (by rfl) (N1 rfl (C5 rfl (by first | rfl | (refine congrArg AV.bool ?_; simp_all; done))))
theorem Ag5 (l : List TCell) (hs : sizeL TCell.size l ≤ 4194304) : GSpec Tryz.prog 208 [AV.list 2 (l.map TCell.cs)] [] (fun x : Value × List Value => x.2.length = l.length) (fun x => .arr x.1 142 2 (nrows TCell.ocs l x.2) :: nin TCell.ow l x.2) (fun x => AV.is x.1) := by
 have hl : l.length ≤ 4194304 := Nat.le_trans O2 hs
 refine H5 Tryz.func208 rfl Tryz.ntmps208 rfl ?_
 refine A3 (A2 ?_)
 refine A1 rfl rfl rfl (C3 rfl K5) ?_
 refine A4 (A3 (A2 ?_))
 refine Q5 142 2 rfl rfl rfl rfl K5 ?_
 intro v3
 refine A4 (A3 (A3 (A2 ?_)))
 refine A5 rfl rfl rfl rfl rfl ?_
 refine A1 rfl rfl rfl (G9 rfl D8 (A0 rfl)) ?_
 refine A1 rfl rfl rfl (C6 rfl C4) ?_
 refine A4 (D7 ?_)
 refine V0 [(2, _), (6, _), (7, _)] [] (fun (i : Nat) (v : Value) (xs : List Value) => i ≤ l.length ∧ xs.length = i) (fun (i : Nat) (v : Value) (xs : List Value) => [.arr v 142 2 (nrows TCell.ocs (l.take i) xs)] ++ (nin TCell.ow (l.take i) xs)) (fun (i : Nat) (v : Value) (xs : List Value) => [(3, AV.is v), (8, AV.int i)]) (fun (i : Nat) (v : Value) (xs : List Value) => l.length - i) (0) (v3) ([]) ?_ (S7 (by rfl) ⟨rfl, rfl, rfl, rfl, rfl, trivial⟩) ?_
 ·exact ⟨Nat.zero_le _, rfl⟩
 intro i v xs hinv
 refine L1 (List.append_nil _) ?_
 refine A3 (A2 ?_)
 refine A1 rfl rfl rfl (K6 rfl (A0 rfl) (A0 rfl)) ?_
 refine A4 (A3 ?_)
 refine C7 (A0 rfl) ?_ ?_
 ·intro h9
  have k9 := of_decide_eq_true h9; try simp only [A6] at k9
  have hlt : i < l.length := by omega
  obtain ⟨x, hx⟩ := get_some hlt
  have hsx := d5 (Nat.le_trans (V6 hx) hs)
  refine D2 (A3 (D7 (A3 (A2 ?_))))
  refine A1 rfl rfl rfl (I7 rfl D8 F0 (A0 rfl) (A0 rfl) hx (by first | omega | (simp only [A6, A7, B2, B7, A8, szR] at *; omega))) ?_
  refine A1 rfl rfl rfl (K4 rfl (A0 rfl) S9 F0) ?_
  refine G0 rfl rfl rfl rfl Tryz.zeroValue142 rfl ?_
  intro b5
  refine D5 0 rfl rfl rfl (A0 rfl) (A0 rfl) (E2 _) rfl F0 rfl ?_
  refine A4 ?_
  refine T3 _ [(0, false), (1, false), (2, false), (4, false), (5, false), (3, true), (6, true), (7, false), (8, false), (9, true)] (by kernel_rfl) (by kernel_rfl) rfl (W9 1) ?_
  refine F9 rfl rfl rfl (fun ext => C6 rfl (A0 rfl)) ?_
  refine F9 rfl rfl rfl (fun ext => B3 0 rfl G5 rfl F5 (A0 rfl) rfl) ?_
  refine F9 rfl rfl rfl (fun ext => B1 0 rfl (A0 rfl) rfl H1 rfl) ?_
  refine F9 rfl rfl rfl (fun ext => B3 1 rfl G5 rfl M0 (A0 rfl) rfl) ?_
  refine F9 rfl rfl rfl (fun ext => B1 0 rfl (A0 rfl) rfl P4 rfl) ?_
  refine U1 rfl rfl rfl (AC9 2 <| a6 rfl I5 N2) (fun a _ => (by first | exact F8 rfl | exact F8 (List.append_assoc _ _ _) | exact J5)) ?_
  intro v15 _
  refine U1 rfl rfl rfl (e6 2 (fun _ => rfl) (P7 (by' := 32) 2 rfl I5 Tryz.type197 rfl rfl rfl rfl rfl rfl (A0 rfl) (A0 rfl) rfl (by first | omega | (simp only [A6, A7, B2, B7, A8, szR] at *; omega)))) (fun a _ => (by first | exact F8 rfl | exact F8 (List.append_assoc _ _ _) | exact J5)) ?_
  intro v18_1 hone_v18_1
  have one_v18_1 := hone_v18_1.2
  refine F9 rfl rfl rfl (fun ext => N0 (places := #[(0, 1), (1, 1)]) rfl G5 Tryz.zeroValue142 (fun w => by kernel_rfl) rfl (E0 (A0 rfl) (P6 _) (E0 (A0 rfl) (Q9 one_v18_1) H6)) rfl) ?_
  refine F9 rfl rfl rfl (fun ext => L9 rfl D8 F0 Tryz.zeroValue142 rfl rfl rfl rfl (E0 (A0 rfl) (E2 _) H6) rfl rfl) ?_
  refine U1 rfl rfl rfl (P7 (by' := 40) 1 rfl D8 Tryz.type142 rfl rfl rfl rfl rfl rfl (A0 rfl) (A0 rfl) rfl (by rw [a7 (by rw [hinv.2, A7]; omega), A8, A7]; omega)) (fun a _ => (by first | exact F8 rfl | exact F8 (List.append_assoc _ _ _) | exact J5)) ?_
  intro v21_2 _
  refine i3 ?_
  refine B9 rfl rfl rfl rfl rfl ?_
  refine A4 ?_
  refine AWP.le (I8 [0, 0, 0] rfl) ?_
  refine AWP.le (l9 2 (t := nin TCell.ow (l.take (i + 1)) (xs ++ [v18_1])) (Al6 (ow := TCell.ow) (x := v18_1) hx hinv.2)) ?_
  refine A2 ?_
  refine A1 rfl rfl rfl (G7 rfl (A0 rfl) C4 (by first | omega | (simp only [A6, A7, B2, B7, A8, szR] at *; omega))) ?_
  refine A5 rfl rfl rfl rfl rfl ?_
  refine A4 ?_
  refine T5 i v xs (i + 1) (v21_2) (xs ++ [v18_1]) ?_ ?_ (M1 1 (Eq.trans (by exact congrArg (fun z => Own.arr _ _ _ z :: _) (AY2 hx hinv.2)) (List.append_nil _).symm) ⟨rfl, rfl, rfl, rfl, rfl, trivial⟩)
  ·exact ⟨by omega, by rw [J1, hinv.2]; rfl⟩
  ·omega
 ·intro h9
  have k9 := of_decide_eq_false h9; try simp only [A6] at k9
  have hge : i = l.length := by omega
  have hxs := hinv.2.trans hge
  rw [show l.take i = l from List.take_of_length_le (by omega)]
  refine H3 ?_
  refine A3 (A2 ?_)
  refine A5 rfl rfl rfl rfl rfl ?_
  refine B9 rfl rfl rfl rfl rfl ?_
  refine A4 ?_
  refine C8 ?_
  exact p4 [0] 0 (nin TCell.ow l xs) [] (v, xs) (hxs) rfl (show List.Perm (nin TCell.ow l xs) ((nin TCell.ow l xs) ++ []) from c6) (by rfl) (N1 rfl (C5 rfl (by first | rfl | (refine congrArg AV.bool ?_; simp_all; done))))
end Go.Proofs.YtnlhbdkcgaeimaaGreat
