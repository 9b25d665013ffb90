/- Texts of the claim, part 4. -/
import Derived.Shelf.Sort.Plain
import Derived.Shelf.Slices.In.SortNone
import Derived.Test.YtkegepoihkhihaaGreatProg
import Derived.Test.YtkegepoihkhihaaGreatZItemsIn3

set_option linter.unusedVariables false
set_option linter.unusedSimpArgs false
set_option maxRecDepth 100000
set_option maxHeartbeats 1000000
namespace Go.Proofs.YtkegepoihkhihaaGreat
open Go Go.AV Go.M
attribute [local irreducible] OpW OpA OpS AWP FSpec ESpec GSpec OpE RetOk RetOkG RvDen Le Ev GuardIs SrcIs Int.tmod Int.tdiv IntKind.wrap
theorem m0 (n : Int) : FSpec Tryz.prog 93 [AV.int n] (AV.bool (isTxnR n)) := by
 refine D3 Tryz.func93 rfl Tryz.ntmps93 rfl ?_
 refine A3 (A2 ?_)
 refine A1 rfl (A9 rfl E3) ?_
 refine A4 (A3 (A2 ?_))
 refine A5 rfl ?_
 refine A1 rfl (E1 rfl Tryz.call82 rfl (V1 _ _ _) (A8 (A0 rfl) (A8 B4 (A8 B4 C7)))) ?_
 refine B3 rfl ?_
 refine A4 ?_
 refine B8 ?_
 exact E4 rfl (B7 rfl (by rfl))
theorem a8 (t : Int) : FSpec Tryz.prog 161 [AV.int t] (AV.bool (within t 1 100000)) := by
 refine D3 Tryz.func161 rfl Tryz.ntmps161 rfl ?_
 refine A3 (A2 ?_)
 refine A1 rfl (A9 rfl E3) ?_
 refine A4 (A3 (A2 ?_))
 refine A5 rfl ?_
 refine A1 rfl (E1 rfl Tryz.call39 rfl (R9 _ _ _) (A8 (A0 rfl) (A8 B4 (A8 B4 C7)))) ?_
 refine B3 rfl ?_
 refine A4 ?_
 refine B8 ?_
 exact E4 rfl (B7 rfl (by first | rfl | (refine congrArg AV.bool ?_; simp_all; done)))
theorem AR1 {r : TRec} (hs : r.size ≤ 1048576) : (∀ k ∈ r.Reads, k.length ≤ 4611686018427387904) ∧ sizeL TWrite.size r.Writes ≤ 1048576 ∧ r.Reads.length ≤ 1048576 ∧ r.Writes.length ≤ 1048576 := by
  unfold TRec.size at hs
  have h1 := L1 (f := fun x : Str => x.length) (l := r.Reads)
  have h2 := L1 (f := TWrite.size) (l := r.Writes)
  exact ⟨fun k hk => by have := m6 (f := fun x : Str => x.length) hk; omega, by omega, by omega, by omega⟩
theorem AY5 (r : TRec) (hs : r.size ≤ 1048576) : FSpec Tryz.prog 136 [AV.agg r.cs] (AV.bool (goodRec r)) := by
 obtain ⟨hr1, hr2, hr3, hr4⟩ := AR1 hs
 refine D3 Tryz.func136 rfl Tryz.ntmps136 rfl ?_
 refine A3 (A2 ?_)
 refine I8 rfl rfl rfl rfl (A0 rfl) ?_
 intro b1
 refine A1 rfl (A9 rfl E3) ?_
 refine A4 (A3 (A2 ?_))
 refine A1 rfl (B2 3 rfl D6 rfl B9 (A0 rfl) rfl) ?_
 refine A1 rfl (B1 0 rfl (A0 rfl) rfl D2 rfl) ?_
 refine A1 rfl (P8 rfl (A0 rfl) B4) ?_
 refine A5 rfl ?_
 refine D1 rfl (fun hc => B2 4 rfl D6 rfl K1 (A0 rfl) rfl) ?_
 refine D1 rfl (fun hc => B1 0 rfl (A7 rfl hc) rfl L6 rfl) ?_
 refine D1 rfl (fun hc => E9 rfl D5 (A7 rfl hc)) ?_
 refine D1 rfl (fun hc => P8 rfl (A7 rfl hc) B4) ?_
 refine A1 rfl (H5 rfl (A0 rfl) (F3 rfl)) ?_
 refine A5 rfl ?_
 refine D1 rfl (fun hc => B2 5 rfl D6 rfl I7 (A0 rfl) rfl) ?_
 refine D1 rfl (fun hc => B1 0 rfl (A7 rfl hc) rfl J7 rfl) ?_
 refine D1 rfl (fun hc => E9 rfl E7 (A7 rfl hc)) ?_
 refine D1 rfl (fun hc => P8 rfl (A7 rfl hc) B4) ?_
 refine A1 rfl (H5 rfl (A0 rfl) (F3 rfl)) ?_
 refine B3 rfl ?_
 refine A4 (A3 (A3 (A2 ?_)))
 refine A1 rfl (B2 0 rfl D6 rfl B9 (A0 rfl) rfl) ?_
 refine A1 rfl (B1 0 rfl (A0 rfl) rfl D2 rfl) ?_
 refine A4 (C4 (A3 (A2 ?_)))
 refine A1 rfl (P8 rfl (A0 rfl) B4) ?_
 refine B3 rfl ?_
 refine A4 ?_
 refine C0 (A0 rfl) ?_ ?_
 ·intro h21
  have k21 := T0 h21; try simp only [A6] at k21
  refine A3 (A2 ?_)
  refine A1 rfl (B2 1 rfl D6 rfl B9 (A0 rfl) rfl) ?_
  refine A1 rfl (B1 0 rfl (A0 rfl) rfl D2 rfl) ?_
  refine A1 rfl (E1 rfl Tryz.call93 rfl (m0 _) (A8 (A0 rfl) C7)) ?_
  refine A5 rfl ?_
  refine D1 rfl (fun hc => B2 2 rfl D6 rfl B9 (A0 rfl) rfl) ?_
  refine D1 rfl (fun hc => B1 0 rfl (A7 rfl hc) rfl D2 rfl) ?_
  refine D1 rfl (fun hc => E1 rfl Tryz.call111 rfl (Z3 _) (A8 (A7 rfl hc) C7)) ?_
  refine A1 rfl (H5 rfl (A0 rfl) (F3 rfl)) ?_
  refine A5 rfl ?_
  refine D1 rfl (fun hc => B2 3 rfl D6 rfl B9 (A0 rfl) rfl) ?_
  refine D1 rfl (fun hc => B1 0 rfl (A7 rfl hc) rfl D2 rfl) ?_
  refine D1 rfl (fun hc => E1 rfl Tryz.call82 rfl (V1 _ _ _) (A8 (A7 rfl hc) (A8 B4 (A8 B4 C7)))) ?_
  refine A1 rfl (H5 rfl (A0 rfl) (F3 rfl)) ?_
  refine A5 rfl ?_
  refine D1 rfl (fun hc => B2 4 rfl D6 rfl K1 (A0 rfl) rfl) ?_
  refine D1 rfl (fun hc => B1 0 rfl (A7 rfl hc) rfl L6 rfl) ?_
  refine D1 rfl (fun hc => E9 rfl D5 (A7 rfl hc)) ?_
  refine D1 rfl (fun hc => R7 rfl (A7 rfl hc) B4) ?_
  refine A1 rfl (H5 rfl (A0 rfl) (F3 rfl)) ?_
  refine A5 rfl ?_
  refine D1 rfl (fun hc => B2 4 rfl D6 rfl K1 (A0 rfl) rfl) ?_
  refine D1 rfl (fun hc => B1 0 rfl (A7 rfl hc) rfl L6 rfl) ?_
  refine D1 rfl (fun hc => E1 rfl Tryz.call119 rfl (l4 r.Reads hr1) (A8 (A7 rfl hc) C7)) ?_
  refine A1 rfl (H5 rfl (A0 rfl) (F3 rfl)) ?_
  refine A5 rfl ?_
  refine D1 rfl (fun hc => B2 5 rfl D6 rfl I7 (A0 rfl) rfl) ?_
  refine D1 rfl (fun hc => B1 0 rfl (A7 rfl hc) rfl J7 rfl) ?_
  refine D1 rfl (fun hc => E9 rfl E7 (A7 rfl hc)) ?_
  refine D1 rfl (fun hc => R7 rfl (A7 rfl hc) B4) ?_
  refine A1 rfl (H5 rfl (A0 rfl) (F3 rfl)) ?_
  refine A5 rfl ?_
  refine D1 rfl (fun hc => B2 5 rfl D6 rfl I7 (A0 rfl) rfl) ?_
  refine D1 rfl (fun hc => B1 0 rfl (A7 rfl hc) rfl J7 rfl) ?_
  refine D1 rfl (fun hc => E1 rfl Tryz.call185 rfl (AK4 r.Writes (by omega)) (A8 (A7 rfl hc) C7)) ?_
  refine A1 rfl (H5 rfl (A0 rfl) (F3 rfl)) ?_
  refine A5 rfl ?_
  refine D1 rfl (fun hc => B2 4 rfl D6 rfl K1 (A0 rfl) rfl) ?_
  refine D1 rfl (fun hc => B1 0 rfl (A7 rfl hc) rfl L6 rfl) ?_
  refine D1 rfl (fun hc => E9 rfl D5 (A7 rfl hc)) ?_
  refine D1 rfl (fun hc => B2 5 rfl D6 rfl I7 (A0 rfl) rfl) ?_
  refine D1 rfl (fun hc => B1 0 rfl (A7 rfl hc) rfl J7 rfl) ?_
  refine D1 rfl (fun hc => E9 rfl E7 (A7 rfl hc)) ?_
  refine D1 rfl (fun hc => F1 rfl (A7 rfl hc) (A7 rfl hc) (by first | omega | ((try simp only [D4, B0, szR] at *); omega) | (have hc2 := hc; simp only [O6, beq_iff_eq, bne_iff_ne, A6, F4] at hc2; omega))) ?_
  refine D1 rfl (fun hc => R4 rfl (A7 rfl hc) B4) ?_
  refine A1 rfl (H5 rfl (A0 rfl) (F3 rfl)) ?_
  refine A5 rfl ?_
  refine D1 rfl (fun hc => B2 6 rfl D6 rfl F8 (A0 rfl) rfl) ?_
  refine D1 rfl (fun hc => B1 0 rfl (A7 rfl hc) rfl I5 rfl) ?_
  refine D1 rfl (fun hc => J3 rfl (A7 rfl hc)) ?_
  refine A1 rfl (H5 rfl (A0 rfl) (F3 rfl)) ?_
  refine B3 rfl ?_
  refine A4 ?_
  refine B8 ?_
  exact E4 rfl (B7 rfl (by first | (exfalso; omega) | exact congrArg AV.bool (by unfold goodRec good1 good2 good4 bareR; simp [*])))
 intro h21
 have k21 := S9 h21; try simp only [A6] at k21
 refine A3 (A3 (A2 ?_))
 refine A1 rfl (P8 rfl (A0 rfl) B4) ?_
 refine B3 rfl ?_
 refine A4 ?_
 refine C0 (A0 rfl) ?_ ?_
 ·intro h73
  have k73 := T0 h73; try simp only [A6] at k73
  refine C1 ?_
  refine C0 (A0 rfl) ?_ ?_
  ·intro h73
   have k73 := T0 h73; try simp only [A6] at k73
   refine A3 (A2 ?_)
   refine A5 rfl ?_
   refine A5 rfl ?_
   refine D1 rfl (fun hc => B2 1 rfl D6 rfl B9 (A0 rfl) rfl) ?_
   refine D1 rfl (fun hc => B1 0 rfl (A7 rfl hc) rfl D2 rfl) ?_
   refine D1 rfl (fun hc => E1 rfl Tryz.call93 rfl (m0 _) (A8 (A7 rfl hc) C7)) ?_
   refine A1 rfl (H5 rfl (A0 rfl) (F3 rfl)) ?_
   refine A5 rfl ?_
   refine D1 rfl (fun hc => B2 6 rfl D6 rfl F8 (A0 rfl) rfl) ?_
   refine D1 rfl (fun hc => B1 0 rfl (A7 rfl hc) rfl I5 rfl) ?_
   refine D1 rfl (fun hc => C2 rfl (A7 rfl hc)) ?_
   refine G9 rfl rfl (D7 rfl rfl rfl) (fun hc => B2 2 rfl D6 rfl B9 (A0 rfl) rfl) ?_
   refine G9 rfl rfl (D7 rfl rfl rfl) (fun hc => B1 0 rfl (A7 rfl hc) rfl D2 rfl) ?_
   refine G9 rfl rfl (D7 rfl rfl rfl) (fun hc => E1 rfl Tryz.call111 rfl (Z3 _) (A8 (A7 rfl hc) C7)) ?_
   refine D1 rfl (fun hc => H5 rfl (A7 rfl hc) (N2 rfl hc)) ?_
   refine D1 rfl (fun hc => C2 rfl (A7 rfl hc)) ?_
   refine G9 rfl rfl (L5 rfl rfl rfl) (fun hc => B2 6 rfl D6 rfl F8 (A0 rfl) rfl) ?_
   refine G9 rfl rfl (L5 rfl rfl rfl) (fun hc => B1 0 rfl (A7 rfl hc) rfl I5 rfl) ?_
   refine G9 rfl rfl (L5 rfl rfl rfl) (fun hc => J3 rfl (A7 rfl hc)) ?_
   refine G9 rfl rfl (L5 rfl rfl rfl) (fun hc => C2 rfl (A7 rfl hc)) ?_
   refine G9 rfl rfl (D7 rfl rfl rfl) (fun hc => B2 2 rfl D6 rfl B9 (A0 rfl) rfl) ?_
   refine G9 rfl rfl (D7 rfl rfl rfl) (fun hc => B1 0 rfl (A7 rfl hc) rfl D2 rfl) ?_
   refine G9 rfl rfl (D7 rfl rfl rfl) (fun hc => P8 rfl (A7 rfl hc) B4) ?_
   refine G9 rfl rfl (L5 rfl rfl rfl) (fun hc => H5 rfl (A7 rfl hc) (N2 rfl hc)) ?_
   refine D1 rfl (fun hc => O1 rfl (A7 rfl hc) (N2 rfl hc)) ?_
   refine A1 rfl (H5 rfl (A0 rfl) (F3 rfl)) ?_
   refine B3 rfl ?_
   refine A4 ?_
   refine B8 ?_
   exact E4 rfl (B7 rfl (by first | (exfalso; omega) | exact congrArg AV.bool (by unfold goodRec good1 good2 good4 bareR; simp [*])))
  intro h73
  have k73 := S9 h73; try simp only [A6] at k73
  refine A3 (A2 ?_)
  refine A1 rfl (P8 rfl (A0 rfl) B4) ?_
  refine B3 rfl ?_
  refine A4 ?_
  refine C0 (A0 rfl) ?_ ?_
  ·intro h101
   have k101 := T0 h101; try simp only [A6] at k101
   refine A3 (A2 ?_)
   refine A5 rfl ?_
   refine A5 rfl ?_
   refine D1 rfl (fun hc => B2 1 rfl D6 rfl B9 (A0 rfl) rfl) ?_
   refine D1 rfl (fun hc => B1 0 rfl (A7 rfl hc) rfl D2 rfl) ?_
   refine D1 rfl (fun hc => P8 rfl (A7 rfl hc) B4) ?_
   refine A1 rfl (H5 rfl (A0 rfl) (F3 rfl)) ?_
   refine A5 rfl ?_
   refine D1 rfl (fun hc => B2 2 rfl D6 rfl B9 (A0 rfl) rfl) ?_
   refine D1 rfl (fun hc => B1 0 rfl (A7 rfl hc) rfl D2 rfl) ?_
   refine D1 rfl (fun hc => E1 rfl Tryz.call111 rfl (Z3 _) (A8 (A7 rfl hc) C7)) ?_
   refine A1 rfl (H5 rfl (A0 rfl) (F3 rfl)) ?_
   refine A5 rfl ?_
   refine D1 rfl (fun hc => B2 6 rfl D6 rfl F8 (A0 rfl) rfl) ?_
   refine D1 rfl (fun hc => B1 0 rfl (A7 rfl hc) rfl I5 rfl) ?_
   refine D1 rfl (fun hc => J3 rfl (A7 rfl hc)) ?_
   refine A1 rfl (H5 rfl (A0 rfl) (F3 rfl)) ?_
   refine B3 rfl ?_
   refine A4 ?_
   refine B8 ?_
   exact E4 rfl (B7 rfl (by first | (exfalso; omega) | exact congrArg AV.bool (by unfold goodRec good1 good2 good4 bareR; simp [*])))
  intro h101
  have k101 := S9 h101; try simp only [A6] at k101
  refine C1 (A3 (A2 ?_))
  refine A1 rfl (A9 rfl E3) ?_
  refine A4 ?_
  refine B8 ?_
  exact E4 rfl (B7 rfl (by first | (exfalso; omega) | exact congrArg AV.bool (by unfold goodRec good1 good2 good4 bareR; simp [*])))
 intro h73
 have k73 := S9 h73; try simp only [A6] at k73
 refine A2 ?_
 refine A1 rfl (P8 rfl (A0 rfl) B4) ?_
 refine B3 rfl ?_
 refine A4 ?_
 refine C0 (A0 rfl) ?_ ?_
 ·intro h73
  have k73 := T0 h73; try simp only [A6] at k73
  refine A3 (A2 ?_)
  refine A5 rfl ?_
  refine A5 rfl ?_
  refine D1 rfl (fun hc => B2 1 rfl D6 rfl B9 (A0 rfl) rfl) ?_
  refine D1 rfl (fun hc => B1 0 rfl (A7 rfl hc) rfl D2 rfl) ?_
  refine D1 rfl (fun hc => E1 rfl Tryz.call93 rfl (m0 _) (A8 (A7 rfl hc) C7)) ?_
  refine A1 rfl (H5 rfl (A0 rfl) (F3 rfl)) ?_
  refine A5 rfl ?_
  refine D1 rfl (fun hc => B2 6 rfl D6 rfl F8 (A0 rfl) rfl) ?_
  refine D1 rfl (fun hc => B1 0 rfl (A7 rfl hc) rfl I5 rfl) ?_
  refine D1 rfl (fun hc => C2 rfl (A7 rfl hc)) ?_
  refine G9 rfl rfl (D7 rfl rfl rfl) (fun hc => B2 2 rfl D6 rfl B9 (A0 rfl) rfl) ?_
  refine G9 rfl rfl (D7 rfl rfl rfl) (fun hc => B1 0 rfl (A7 rfl hc) rfl D2 rfl) ?_
  refine G9 rfl rfl (D7 rfl rfl rfl) (fun hc => E1 rfl Tryz.call111 rfl (Z3 _) (A8 (A7 rfl hc) C7)) ?_
  refine D1 rfl (fun hc => H5 rfl (A7 rfl hc) (N2 rfl hc)) ?_
  refine D1 rfl (fun hc => C2 rfl (A7 rfl hc)) ?_
  refine G9 rfl rfl (L5 rfl rfl rfl) (fun hc => B2 6 rfl D6 rfl F8 (A0 rfl) rfl) ?_
  refine G9 rfl rfl (L5 rfl rfl rfl) (fun hc => B1 0 rfl (A7 rfl hc) rfl I5 rfl) ?_
  refine G9 rfl rfl (L5 rfl rfl rfl) (fun hc => J3 rfl (A7 rfl hc)) ?_
  refine G9 rfl rfl (L5 rfl rfl rfl) (fun hc => C2 rfl (A7 rfl hc)) ?_
  refine G9 rfl rfl (D7 rfl rfl rfl) (fun hc => B2 2 rfl D6 rfl B9 (A0 rfl) rfl) ?_
  refine G9 rfl rfl (D7 rfl rfl rfl) (fun hc => B1 0 rfl (A7 rfl hc) rfl D2 rfl) ?_
  refine G9 rfl rfl (D7 rfl rfl rfl) (fun hc => P8 rfl (A7 rfl hc) B4) ?_
  refine G9 rfl rfl (L5 rfl rfl rfl) (fun hc => H5 rfl (A7 rfl hc) (N2 rfl hc)) ?_
  refine D1 rfl (fun hc => O1 rfl (A7 rfl hc) (N2 rfl hc)) ?_
  refine A1 rfl (H5 rfl (A0 rfl) (F3 rfl)) ?_
  refine B3 rfl ?_
  refine A4 ?_
  refine B8 ?_
  exact E4 rfl (B7 rfl (by first | (exfalso; omega) | exact congrArg AV.bool (by unfold goodRec good1 good2 good4 bareR; simp [*])))
 intro h73
 have k73 := S9 h73; try simp only [A6] at k73
 refine A3 (A2 ?_)
 refine A1 rfl (P8 rfl (A0 rfl) B4) ?_
 refine B3 rfl ?_
 refine A4 ?_
 refine C0 (A0 rfl) ?_ ?_
 ·intro h101
  have k101 := T0 h101; try simp only [A6] at k101
  refine A3 (A2 ?_)
  refine A5 rfl ?_
  refine A5 rfl ?_
  refine D1 rfl (fun hc => B2 1 rfl D6 rfl B9 (A0 rfl) rfl) ?_
  refine D1 rfl (fun hc => B1 0 rfl (A7 rfl hc) rfl D2 rfl) ?_
  refine D1 rfl (fun hc => P8 rfl (A7 rfl hc) B4) ?_
  refine A1 rfl (H5 rfl (A0 rfl) (F3 rfl)) ?_
  refine A5 rfl ?_
  refine D1 rfl (fun hc => B2 2 rfl D6 rfl B9 (A0 rfl) rfl) ?_
  refine D1 rfl (fun hc => B1 0 rfl (A7 rfl hc) rfl D2 rfl) ?_
  refine D1 rfl (fun hc => E1 rfl Tryz.call111 rfl (Z3 _) (A8 (A7 rfl hc) C7)) ?_
  refine A1 rfl (H5 rfl (A0 rfl) (F3 rfl)) ?_
  refine A5 rfl ?_
  refine D1 rfl (fun hc => B2 6 rfl D6 rfl F8 (A0 rfl) rfl) ?_
  refine D1 rfl (fun hc => B1 0 rfl (A7 rfl hc) rfl I5 rfl) ?_
  refine D1 rfl (fun hc => J3 rfl (A7 rfl hc)) ?_
  refine A1 rfl (H5 rfl (A0 rfl) (F3 rfl)) ?_
  refine B3 rfl ?_
  refine A4 ?_
  refine B8 ?_
  exact E4 rfl (B7 rfl (by first | (exfalso; omega) | exact congrArg AV.bool (by unfold goodRec good1 good2 good4 bareR; simp [*])))
 intro h101
 have k101 := S9 h101; try simp only [A6] at k101
 refine C1 (A3 (A2 ?_))
 refine A1 rfl (A9 rfl E3) ?_
 refine A4 ?_
 refine B8 ?_
 exact E4 rfl (B7 rfl (by first | (exfalso; omega) | exact congrArg AV.bool (by unfold goodRec good1 good2 good4 bareR; simp [*])))
theorem Ad1 (l : List Str) (hs : ∀ k ∈ l, k.length ≤ 4611686018427387904) : FSpec Tryz.prog 162 [strs l] (AV.bool (l4Keys l)) := by
 refine D3 Tryz.func162 rfl Tryz.ntmps162 rfl ?_
 refine N7 (t := 0) rfl fun hl => ?_
 try simp only [A6] at hl
 refine A3 (A2 ?_)
 refine A1 rfl (A9 rfl E3) ?_
 refine A4 (A3 (A3 (A2 ?_)))
 refine A5 rfl ?_
 refine A1 rfl (E9 rfl D5 (A0 rfl)) ?_
 refine A1 rfl (C2 rfl B4) ?_
 refine A4 (C4 ?_)
 refine H2 [(0, _), (5, _), (6, _)] _ (fun (i : Nat) => i ≤ l.length ∧ (l.all l3Key && adj Op.bytesLess l) = ((l.drop i).all l3Key && adj Op.bytesLess (l.drop (i - 1)))) (fun (i : Nat) => []) (fun (i : Nat) => [(7, AV.int i)]) (fun (i : Nat) => l.length - i) (0) ?_ (H1 ⟨rfl, rfl, rfl, rfl, trivial⟩) ?_
 ·exact ⟨Nat.zero_le _, rfl⟩
 intro i hinv
 refine A3 (A2 ?_)
 refine A1 rfl (G0 rfl (A0 rfl) (A0 rfl)) ?_
 refine A4 (A3 ?_)
 refine C0 (A0 rfl) ?_ ?_
 ·intro h8
  have k8 := of_decide_eq_true h8; try simp only [A6] at k8
  have hlt : i < l.length := by omega
  obtain ⟨x, hx⟩ := get_some hlt
  obtain ⟨y, hy⟩ := get_some (show i - 1 < l.length by omega)
  have hsx := hs x (H4 hx)
  refine C1 (A3 (C4 (A3 (A2 ?_))))
  refine A5 rfl ?_
  refine A1 rfl (O7 rfl D5 C6 (A0 rfl) (A0 rfl) (by omega) (by simp only [Int.toNat_natCast, List.getElem?_map, hx, Option.map_some]; try rfl)) ?_
  refine A1 rfl (J5 rfl (A0 rfl) E5 rfl) ?_
  refine B3 rfl ?_
  refine B3 rfl ?_
  refine A4 (A3 (A2 ?_))
  refine A5 rfl ?_
  refine A1 rfl (E1 rfl Tryz.call198 rfl (x6 _ (by omega)) (A8 (A0 rfl) C7)) ?_
  refine A1 rfl (J3 rfl (A0 rfl)) ?_
  refine A5 rfl ?_
  refine H3 rfl (fun hc => C2 rfl (A0 rfl)) ?_
  refine H3 rfl (fun hc => R4 rfl (A7 rfl hc) B4) ?_
  refine H3 rfl (fun hc => C2 rfl (A7 rfl hc)) ?_
  refine G9 rfl rfl (D7 rfl rfl rfl) (fun hc => C2 rfl (A0 rfl)) ?_
  refine G9 rfl rfl (D7 rfl rfl rfl) (fun hc => C2 rfl (A0 rfl)) ?_
  refine G9 rfl rfl (D7 rfl rfl rfl) (fun hc => P4 rfl (A7 rfl hc) B4 (by first | omega | ((try simp only [D4, B0, szR] at *); omega) | (have hc2 := hc; simp only [O6, beq_iff_eq, bne_iff_ne, A6, F4] at hc2; omega))) ?_
  refine G9 rfl rfl (D7 rfl rfl rfl) (fun hc => O7 rfl D5 C6 (A7 rfl hc) (A7 rfl hc) (by have := of_decide_eq_true (and_r hc); omega) (by have := of_decide_eq_true (and_r hc); rw [show ((i : Int) - 1).toNat = i - 1 by omega]; simp only [List.getElem?_map, hy, Option.map_some]; try rfl)) ?_
  refine G9 rfl rfl (D7 rfl rfl rfl) (fun hc => J5 rfl (A7 rfl hc) E5 rfl) ?_
  refine G9 rfl rfl (D7 rfl rfl rfl) (fun hc => C2 rfl (A0 rfl)) ?_
  refine G9 rfl rfl (D7 rfl rfl rfl) (fun hc => AU4 rfl (A7 rfl hc) (A7 rfl hc)) ?_
  refine H3 rfl (fun hc => H5 rfl (A7 rfl hc) (N2 rfl hc)) ?_
  refine A1 rfl (O1 rfl (A0 rfl) (F3 rfl)) ?_
  refine A4 ?_
  refine C0 (A0 rfl) ?_ ?_
  ·intro h27
   have hfin : (l.all l3Key && adj Op.bytesLess l) = false := by rw [hinv.2, drop_some hx, List.all_cons]; cases hg : l3Key x with | false => simp | true => (simp only [hg, Bool.not_true, Bool.false_or, Bool.and_eq_true, decide_eq_true_eq, Bool.not_eq_true'] at h27; rw [j9 hx hy (by omega) h27.2]; simp)
   refine A3 (A2 ?_)
   refine A1 rfl (A9 rfl E3) ?_
   refine A4 ?_
   refine B8 ?_
   exact E4 rfl (B7 rfl (by first | exact congrArg AV.bool (by unfold l4Keys; rw [hfin]; rfl) | exact congrArg AV.bool (by unfold l4Keys; rw [hinv.2, V8 hge, List.drop_eq_nil_of_le hge]; simp)))
  intro h27
  refine C1 (A2 ?_)
  refine A1 rfl (F1 rfl (A0 rfl) B4 (by first | omega | (simp only [D4, B0, szR] at *; omega))) ?_
  refine A5 rfl ?_
  refine A4 ?_
  refine I0 i (i + 1) ?_ ?_ (H1 ⟨rfl, rfl, rfl, rfl, trivial⟩)
  ·exact ⟨by omega, by rw [hinv.2, drop_some hx, List.all_cons, j8 hx hy (fun h0 => by simp_all), show l3Key x = true by simp_all, Bool.true_and]⟩
  omega
 intro h8
 have k8 := of_decide_eq_false h8; try simp only [A6] at k8
 have hge : l.length ≤ i := by omega
 refine F5 ?_
 refine A3 (A2 ?_)
 refine A5 rfl ?_
 refine A1 rfl (E9 rfl D5 (A0 rfl)) ?_
 refine A1 rfl (R7 rfl (A0 rfl) B4) ?_
 refine B3 rfl ?_
 refine A4 ?_
 refine B8 ?_
 exact E4 rfl (B7 rfl (by first | exact congrArg AV.bool (by unfold l4Keys; rw [hfin]; rfl) | exact congrArg AV.bool (by unfold l4Keys; rw [hinv.2, V8 hge, List.drop_eq_nil_of_le hge]; simp)))
theorem Ad2 (r : TRec) (hs : r.size ≤ 1048576) : FSpec Tryz.prog 106 [AV.agg r.cs] (AV.bool (l4Good r)) := by
 obtain ⟨hr1, hr2, hr3, hr4⟩ := AR1 hs
 refine D3 Tryz.func106 rfl Tryz.ntmps106 rfl ?_
 refine A3 (A2 ?_)
 refine I8 rfl rfl rfl rfl (A0 rfl) ?_
 intro b1
 refine A1 rfl (A9 rfl E3) ?_
 refine A4 (A3 (A3 (A2 ?_)))
 refine A1 rfl (B2 0 rfl D6 rfl B9 (A0 rfl) rfl) ?_
 refine A1 rfl (B1 0 rfl (A0 rfl) rfl D2 rfl) ?_
 refine A1 rfl (R6 rfl (A0 rfl) B4) ?_
 refine A5 rfl ?_
 refine D1 rfl (fun hc => B2 3 rfl D6 rfl B9 (A0 rfl) rfl) ?_
 refine D1 rfl (fun hc => B1 0 rfl (A7 rfl hc) rfl D2 rfl) ?_
 refine D1 rfl (fun hc => R6 rfl (A7 rfl hc) B4) ?_
 refine D1 rfl (fun hc => C2 rfl (A7 rfl hc)) ?_
 refine G9 rfl rfl (L5 rfl rfl rfl) (fun hc => B2 4 rfl D6 rfl K1 (A0 rfl) rfl) ?_
 refine G9 rfl rfl (L5 rfl rfl rfl) (fun hc => B1 0 rfl (A7 rfl hc) rfl L6 rfl) ?_
 refine G9 rfl rfl (L5 rfl rfl rfl) (fun hc => E9 rfl D5 (A7 rfl hc)) ?_
 refine G9 rfl rfl (L5 rfl rfl rfl) (fun hc => B2 5 rfl D6 rfl I7 (A0 rfl) rfl) ?_
 refine G9 rfl rfl (L5 rfl rfl rfl) (fun hc => B1 0 rfl (A7 rfl hc) rfl J7 rfl) ?_
 refine G9 rfl rfl (L5 rfl rfl rfl) (fun hc => E9 rfl E7 (A7 rfl hc)) ?_
 refine G9 rfl rfl (L5 rfl rfl rfl) (fun hc => F1 rfl (A7 rfl hc) (A7 rfl hc) (by first | omega | ((try simp only [D4, B0, szR] at *); omega) | (have hc2 := hc; simp only [O6, beq_iff_eq, bne_iff_ne, A6, F4] at hc2; omega))) ?_
 refine G9 rfl rfl (L5 rfl rfl rfl) (fun hc => R4 rfl (A7 rfl hc) B4) ?_
 refine D1 rfl (fun hc => O1 rfl (A7 rfl hc) (N2 rfl hc)) ?_
 refine A1 rfl (H5 rfl (A0 rfl) (F3 rfl)) ?_
 refine A4 ?_
 refine C0 (A0 rfl) ?_ ?_
 ·intro h20
  have ho : oddR r = true := by (unfold oddR; simpa using h20)
  refine A3 (A2 ?_)
  refine A1 rfl (A9 rfl E3) ?_
  refine A4 ?_
  refine B8 ?_
  exact E4 rfl (B7 rfl (by first | (exfalso; omega) | exact congrArg AV.bool (by unfold l4Good; rw [ho]; first | rfl | (unfold l4G1 l4G2 l4G4; simp [*]))))
 intro h20
 have ho : oddR r = false := by (unfold oddR; simpa using h20)
 refine C1 (A3 (A3 (A2 ?_)))
 refine A1 rfl (B2 0 rfl D6 rfl B9 (A0 rfl) rfl) ?_
 refine A1 rfl (B1 0 rfl (A0 rfl) rfl D2 rfl) ?_
 refine A4 (C4 (A3 (A2 ?_)))
 refine A1 rfl (P8 rfl (A0 rfl) B4) ?_
 refine B3 rfl ?_
 refine A4 ?_
 refine C0 (A0 rfl) ?_ ?_
 ·intro h23
  have k23 := T0 h23; try simp only [A6] at k23
  refine A3 (A2 ?_)
  refine A1 rfl (B2 1 rfl D6 rfl B9 (A0 rfl) rfl) ?_
  refine A1 rfl (B1 0 rfl (A0 rfl) rfl D2 rfl) ?_
  refine A1 rfl (E1 rfl Tryz.call39 rfl (R9 _ _ _) (A8 (A0 rfl) (A8 B4 (A8 B4 C7)))) ?_
  refine A5 rfl ?_
  refine D1 rfl (fun hc => B2 2 rfl D6 rfl B9 (A0 rfl) rfl) ?_
  refine D1 rfl (fun hc => B1 0 rfl (A7 rfl hc) rfl D2 rfl) ?_
  refine D1 rfl (fun hc => E1 rfl Tryz.call161 rfl (a8 _) (A8 (A7 rfl hc) C7)) ?_
  refine A1 rfl (H5 rfl (A0 rfl) (F3 rfl)) ?_
  refine A5 rfl ?_
  refine D1 rfl (fun hc => B2 3 rfl D6 rfl B9 (A0 rfl) rfl) ?_
  refine D1 rfl (fun hc => B1 0 rfl (A7 rfl hc) rfl D2 rfl) ?_
  refine D1 rfl (fun hc => E1 rfl Tryz.call39 rfl (R9 _ _ _) (A8 (A7 rfl hc) (A8 B4 (A8 B4 C7)))) ?_
  refine A1 rfl (H5 rfl (A0 rfl) (F3 rfl)) ?_
  refine A5 rfl ?_
  refine D1 rfl (fun hc => B2 4 rfl D6 rfl K1 (A0 rfl) rfl) ?_
  refine D1 rfl (fun hc => B1 0 rfl (A7 rfl hc) rfl L6 rfl) ?_
  refine D1 rfl (fun hc => E1 rfl Tryz.call162 rfl (Ad1 r.Reads hr1) (A8 (A7 rfl hc) C7)) ?_
  refine A1 rfl (H5 rfl (A0 rfl) (F3 rfl)) ?_
  refine A5 rfl ?_
  refine D1 rfl (fun hc => B2 5 rfl D6 rfl I7 (A0 rfl) rfl) ?_
  refine D1 rfl (fun hc => B1 0 rfl (A7 rfl hc) rfl J7 rfl) ?_
  refine D1 rfl (fun hc => E1 rfl Tryz.call163 rfl (AS3 r.Writes (by omega)) (A8 (A7 rfl hc) C7)) ?_
  refine A1 rfl (H5 rfl (A0 rfl) (F3 rfl)) ?_
  refine A5 rfl ?_
  refine D1 rfl (fun hc => B2 5 rfl D6 rfl I7 (A0 rfl) rfl) ?_
  refine D1 rfl (fun hc => B1 0 rfl (A7 rfl hc) rfl J7 rfl) ?_
  refine D1 rfl (fun hc => E9 rfl E7 (A7 rfl hc)) ?_
  refine D1 rfl (fun hc => E1 rfl Tryz.call39 rfl (R9 _ _ _) (A8 (A7 rfl hc) (A8 B4 (A8 B4 C7)))) ?_
  refine A1 rfl (H5 rfl (A0 rfl) (F3 rfl)) ?_
  refine A5 rfl ?_
  refine D1 rfl (fun hc => B2 4 rfl D6 rfl K1 (A0 rfl) rfl) ?_
  refine D1 rfl (fun hc => B1 0 rfl (A7 rfl hc) rfl L6 rfl) ?_
  refine D1 rfl (fun hc => E9 rfl D5 (A7 rfl hc)) ?_
  refine D1 rfl (fun hc => B2 5 rfl D6 rfl I7 (A0 rfl) rfl) ?_
  refine D1 rfl (fun hc => B1 0 rfl (A7 rfl hc) rfl J7 rfl) ?_
  refine D1 rfl (fun hc => E9 rfl E7 (A7 rfl hc)) ?_
  refine D1 rfl (fun hc => F1 rfl (A7 rfl hc) (A7 rfl hc) (by first | omega | ((try simp only [D4, B0, szR] at *); omega) | (have hc2 := hc; simp only [O6, beq_iff_eq, bne_iff_ne, A6, F4] at hc2; omega))) ?_
  refine D1 rfl (fun hc => R4 rfl (A7 rfl hc) B4) ?_
  refine A1 rfl (H5 rfl (A0 rfl) (F3 rfl)) ?_
  refine A5 rfl ?_
  refine D1 rfl (fun hc => B2 6 rfl D6 rfl F8 (A0 rfl) rfl) ?_
  refine D1 rfl (fun hc => B1 0 rfl (A7 rfl hc) rfl I5 rfl) ?_
  refine D1 rfl (fun hc => J3 rfl (A7 rfl hc)) ?_
  refine A1 rfl (H5 rfl (A0 rfl) (F3 rfl)) ?_
  refine B3 rfl ?_
  refine A4 ?_
  refine B8 ?_
  exact E4 rfl (B7 rfl (by first | (exfalso; omega) | exact congrArg AV.bool (by unfold l4Good; rw [ho]; first | rfl | (unfold l4G1 l4G2 l4G4; simp [*]))))
 intro h23
 have k23 := S9 h23; try simp only [A6] at k23
 refine A3 (A3 (A2 ?_))
 refine A1 rfl (P8 rfl (A0 rfl) B4) ?_
 refine B3 rfl ?_
 refine A4 ?_
 refine C0 (A0 rfl) ?_ ?_
 ·intro h69
  have k69 := T0 h69; try simp only [A6] at k69
  refine C1 ?_
  refine C0 (A0 rfl) ?_ ?_
  ·intro h69
   have k69 := T0 h69; try simp only [A6] at k69
   refine A3 (A2 ?_)
   refine A1 rfl (B2 1 rfl D6 rfl B9 (A0 rfl) rfl) ?_
   refine A1 rfl (B1 0 rfl (A0 rfl) rfl D2 rfl) ?_
   refine A1 rfl (E1 rfl Tryz.call39 rfl (R9 _ _ _) (A8 (A0 rfl) (A8 B4 (A8 B4 C7)))) ?_
   refine A5 rfl ?_
   refine D1 rfl (fun hc => B2 6 rfl D6 rfl F8 (A0 rfl) rfl) ?_
   refine D1 rfl (fun hc => B1 0 rfl (A7 rfl hc) rfl I5 rfl) ?_
   refine D1 rfl (fun hc => C2 rfl (A7 rfl hc)) ?_
   refine G9 rfl rfl (D7 rfl rfl rfl) (fun hc => B2 2 rfl D6 rfl B9 (A0 rfl) rfl) ?_
   refine G9 rfl rfl (D7 rfl rfl rfl) (fun hc => B1 0 rfl (A7 rfl hc) rfl D2 rfl) ?_
   refine G9 rfl rfl (D7 rfl rfl rfl) (fun hc => E1 rfl Tryz.call161 rfl (a8 _) (A8 (A7 rfl hc) C7)) ?_
   refine D1 rfl (fun hc => H5 rfl (A7 rfl hc) (N2 rfl hc)) ?_
   refine D1 rfl (fun hc => C2 rfl (A7 rfl hc)) ?_
   refine G9 rfl rfl (L5 rfl rfl rfl) (fun hc => B2 6 rfl D6 rfl F8 (A0 rfl) rfl) ?_
   refine G9 rfl rfl (L5 rfl rfl rfl) (fun hc => B1 0 rfl (A7 rfl hc) rfl I5 rfl) ?_
   refine G9 rfl rfl (L5 rfl rfl rfl) (fun hc => J3 rfl (A7 rfl hc)) ?_
   refine G9 rfl rfl (L5 rfl rfl rfl) (fun hc => C2 rfl (A7 rfl hc)) ?_
   refine G9 rfl rfl (D7 rfl rfl rfl) (fun hc => B2 2 rfl D6 rfl B9 (A0 rfl) rfl) ?_
   refine G9 rfl rfl (D7 rfl rfl rfl) (fun hc => B1 0 rfl (A7 rfl hc) rfl D2 rfl) ?_
   refine G9 rfl rfl (D7 rfl rfl rfl) (fun hc => P8 rfl (A7 rfl hc) B4) ?_
   refine G9 rfl rfl (L5 rfl rfl rfl) (fun hc => H5 rfl (A7 rfl hc) (N2 rfl hc)) ?_
   refine D1 rfl (fun hc => O1 rfl (A7 rfl hc) (N2 rfl hc)) ?_
   refine A1 rfl (H5 rfl (A0 rfl) (F3 rfl)) ?_
   refine B3 rfl ?_
   refine A4 ?_
   refine B8 ?_
   exact E4 rfl (B7 rfl (by first | (exfalso; omega) | exact congrArg AV.bool (by unfold l4Good; rw [ho]; first | rfl | (unfold l4G1 l4G2 l4G4; simp [*]))))
  intro h69
  have k69 := S9 h69; try simp only [A6] at k69
  refine C1 (A3 (A2 ?_))
  refine A1 rfl (B2 0 rfl D6 rfl B9 (A0 rfl) rfl) ?_
  refine A1 rfl (B1 0 rfl (A0 rfl) rfl D2 rfl) ?_
  refine A1 rfl (P8 rfl (A0 rfl) B4) ?_
  refine A5 rfl ?_
  refine D1 rfl (fun hc => B2 1 rfl D6 rfl B9 (A0 rfl) rfl) ?_
  refine D1 rfl (fun hc => B1 0 rfl (A7 rfl hc) rfl D2 rfl) ?_
  refine D1 rfl (fun hc => P8 rfl (A7 rfl hc) B4) ?_
  refine A1 rfl (H5 rfl (A0 rfl) (F3 rfl)) ?_
  refine A5 rfl ?_
  refine D1 rfl (fun hc => B2 2 rfl D6 rfl B9 (A0 rfl) rfl) ?_
  refine D1 rfl (fun hc => B1 0 rfl (A7 rfl hc) rfl D2 rfl) ?_
  refine D1 rfl (fun hc => E1 rfl Tryz.call161 rfl (a8 _) (A8 (A7 rfl hc) C7)) ?_
  refine A1 rfl (H5 rfl (A0 rfl) (F3 rfl)) ?_
  refine A5 rfl ?_
  refine D1 rfl (fun hc => B2 6 rfl D6 rfl F8 (A0 rfl) rfl) ?_
  refine D1 rfl (fun hc => B1 0 rfl (A7 rfl hc) rfl I5 rfl) ?_
  refine D1 rfl (fun hc => J3 rfl (A7 rfl hc)) ?_
  refine A1 rfl (H5 rfl (A0 rfl) (F3 rfl)) ?_
  refine B3 rfl ?_
  refine A4 ?_
  refine B8 ?_
  exact E4 rfl (B7 rfl (by first | (exfalso; omega) | exact congrArg AV.bool (by unfold l4Good; rw [ho]; first | rfl | (unfold l4G1 l4G2 l4G4; simp [*]))))
 intro h69
 have k69 := S9 h69; try simp only [A6] at k69
 refine A2 ?_
 refine A1 rfl (P8 rfl (A0 rfl) B4) ?_
 refine B3 rfl ?_
 refine A4 ?_
 refine C0 (A0 rfl) ?_ ?_
 ·intro h69
  have k69 := T0 h69; try simp only [A6] at k69
  refine A3 (A2 ?_)
  refine A1 rfl (B2 1 rfl D6 rfl B9 (A0 rfl) rfl) ?_
  refine A1 rfl (B1 0 rfl (A0 rfl) rfl D2 rfl) ?_
  refine A1 rfl (E1 rfl Tryz.call39 rfl (R9 _ _ _) (A8 (A0 rfl) (A8 B4 (A8 B4 C7)))) ?_
  refine A5 rfl ?_
  refine D1 rfl (fun hc => B2 6 rfl D6 rfl F8 (A0 rfl) rfl) ?_
  refine D1 rfl (fun hc => B1 0 rfl (A7 rfl hc) rfl I5 rfl) ?_
  refine D1 rfl (fun hc => C2 rfl (A7 rfl hc)) ?_
  refine G9 rfl rfl (D7 rfl rfl rfl) (fun hc => B2 2 rfl D6 rfl B9 (A0 rfl) rfl) ?_
  refine G9 rfl rfl (D7 rfl rfl rfl) (fun hc => B1 0 rfl (A7 rfl hc) rfl D2 rfl) ?_
  refine G9 rfl rfl (D7 rfl rfl rfl) (fun hc => E1 rfl Tryz.call161 rfl (a8 _) (A8 (A7 rfl hc) C7)) ?_
  refine D1 rfl (fun hc => H5 rfl (A7 rfl hc) (N2 rfl hc)) ?_
  refine D1 rfl (fun hc => C2 rfl (A7 rfl hc)) ?_
  refine G9 rfl rfl (L5 rfl rfl rfl) (fun hc => B2 6 rfl D6 rfl F8 (A0 rfl) rfl) ?_
  refine G9 rfl rfl (L5 rfl rfl rfl) (fun hc => B1 0 rfl (A7 rfl hc) rfl I5 rfl) ?_
  refine G9 rfl rfl (L5 rfl rfl rfl) (fun hc => J3 rfl (A7 rfl hc)) ?_
  refine G9 rfl rfl (L5 rfl rfl rfl) (fun hc => C2 rfl (A7 rfl hc)) ?_
  refine G9 rfl rfl (D7 rfl rfl rfl) (fun hc => B2 2 rfl D6 rfl B9 (A0 rfl) rfl) ?_
  refine G9 rfl rfl (D7 rfl rfl rfl) (fun hc => B1 0 rfl (A7 rfl hc) rfl D2 rfl) ?_
  refine G9 rfl rfl (D7 rfl rfl rfl) (fun hc => P8 rfl (A7 rfl hc) B4) ?_
  refine G9 rfl rfl (L5 rfl rfl rfl) (fun hc => H5 rfl (A7 rfl hc) (N2 rfl hc)) ?_
  refine D1 rfl (fun hc => O1 rfl (A7 rfl hc) (N2 rfl hc)) ?_
  refine A1 rfl (H5 rfl (A0 rfl) (F3 rfl)) ?_
  refine B3 rfl ?_
  refine A4 ?_
  refine B8 ?_
  exact E4 rfl (B7 rfl (by first | (exfalso; omega) | exact congrArg AV.bool (by unfold l4Good; rw [ho]; first | rfl | (unfold l4G1 l4G2 l4G4; simp [*]))))
 intro h69
 have k69 := S9 h69; try simp only [A6] at k69
 refine C1 (A3 (A2 ?_))
 refine A1 rfl (B2 0 rfl D6 rfl B9 (A0 rfl) rfl) ?_
 refine A1 rfl (B1 0 rfl (A0 rfl) rfl D2 rfl) ?_
 refine A1 rfl (P8 rfl (A0 rfl) B4) ?_
 refine A5 rfl ?_
 refine D1 rfl (fun hc => B2 1 rfl D6 rfl B9 (A0 rfl) rfl) ?_
 refine D1 rfl (fun hc => B1 0 rfl (A7 rfl hc) rfl D2 rfl) ?_
 refine D1 rfl (fun hc => P8 rfl (A7 rfl hc) B4) ?_
 refine A1 rfl (H5 rfl (A0 rfl) (F3 rfl)) ?_
 refine A5 rfl ?_
 refine D1 rfl (fun hc => B2 2 rfl D6 rfl B9 (A0 rfl) rfl) ?_
 refine D1 rfl (fun hc => B1 0 rfl (A7 rfl hc) rfl D2 rfl) ?_
 refine D1 rfl (fun hc => E1 rfl Tryz.call161 rfl (a8 _) (A8 (A7 rfl hc) C7)) ?_
 refine A1 rfl (H5 rfl (A0 rfl) (F3 rfl)) ?_
 refine A5 rfl ?_
 refine D1 rfl (fun hc => B2 6 rfl D6 rfl F8 (A0 rfl) rfl) ?_
 refine D1 rfl (fun hc => B1 0 rfl (A7 rfl hc) rfl I5 rfl) ?_
 refine D1 rfl (fun hc => J3 rfl (A7 rfl hc)) ?_
 refine A1 rfl (H5 rfl (A0 rfl) (F3 rfl)) ?_
 refine B3 rfl ?_
 refine A4 ?_
 refine B8 ?_
 exact E4 rfl (B7 rfl (by first | (exfalso; omega) | exact congrArg AV.bool (by unfold l4Good; rw [ho]; first | rfl | (unfold l4G1 l4G2 l4G4; simp [*]))))
end Go.Proofs.YtkegepoihkhihaaGreat

namespace Go.AV
open Go.RowKit (Below)
section
variable {P : Program} {G : Nat → Prop} {n : Nat} {own : List Own} {o : Oper} {E : EnvF}
theorem w_tlen {t e : TypeId} {p : Operand} {v : Value} {sz lo : Nat} {es : List (List AV)} (i : Nat) (ho : o.op = .call { callee := .builtin .len, args := #[p], argTypes := #[t] }) (ht : P.underlying t = some (.slice e)) (hp : Ev E p (AV.is (tailV lo sz v))) (hi : own[i]? = some (.arr v e sz es)) : OpW P G n own o E (AV.int ((es.length - lo : Nat) : Int)) := T4 fun w0 R0 R a w hcore he => by
  have h1 : a.eval p = _ := G7 hp (by simp [ho, Op.operands, Call.operands]) he
  obtain ⟨_, _, xs, hown, _⟩ := hcore.owned _ (H4 hi)
  obtain ⟨oa, c, rfl, _⟩ := j4 hown
  have hel : P.elem t = e := by simp [Program.elem, ht]
  have h2 := fun (b : Option Addr) => run_len_slice (P := P) w t o.type b (es.length - lo) (c - lo) (by rw [hel]; exact ht)
  exact ⟨.int .i64 (es.length - lo : Nat), by simp only [execOp, ho, resolve, invoke, builtin, List.map_toArray, List.map_cons, List.map_nil, h1, tailV, sliced, h2, Sem.run_bind, Sem.run_pure, Result.andThen_ok, goInt], rfl⟩
theorem AY6 {t e : TypeId} {p q : Operand} {v : Value} {sz lo : Nat} {es : List (List AV)} {k : Int} (i : Nat) (ho : o.op = .indexAddr t p q) (ht : P.underlying t = some (.slice e)) (hsz : ∀ w, (sizeOf e).run P w = .ok sz w) (hp : Ev E p (AV.is (tailV lo sz v))) (hi : own[i]? = some (.arr v e sz es)) (hq : Ev E q (AV.int k)) (h0 : 0 ≤ k) (hk : lo + k < es.length) :
    OpW P G n own o E (AV.is (elemPtr v ((lo + k.toNat) * sz))) := T4 fun w0 R0 R a w hcore he => by
  have h1 : a.eval p = _ := G7 hp (by simp [ho, Op.operands]) he
  have h2 : a.eval q = .int .i64 k := G7 hq (by simp [ho, Op.operands]) he
  obtain ⟨_, _, xs, hown, _⟩ := hcore.owned _ (H4 hi)
  rcases hown.2 with ⟨rfl, hz⟩ | ⟨g, cap, cur, rfl, _, _, hn, _⟩
  · rw [hz] at hk; simp at hk; omega
  · have hel : P.elem t = e := by simp [Program.elem, ht]
    have hne : ¬ cap = lo := by omega
    have hk2 : k < ((es.length - lo : Nat) : Int) := by omega
    have h3 := run_indexAt_slice (P := P) w t ((⟨g, 0, none⟩ : Addr).add (lo * sz)) (es.length - lo) (cap - lo) .i64 k (by rw [hel]; exact ht)
    rw [if_pos ⟨h0, hk2⟩, hel, hsz, Result.andThen_ok] at h3
    have e : (lo + k.toNat) * sz = lo * sz + k.toNat * sz := Nat.add_mul _ _ _
    refine ⟨.pointer (some (Addr.add ((⟨g, 0, none⟩ : Addr).add (lo * sz)) (k.toNat * sz))), by simp only [execOp, ho, h1, h2, tailV, sliced, if_neg hne, Option.map_some, h3, Sem.run_bind, Sem.run_pure, Result.andThen_ok], ?_⟩
    rw [e]
    show Value.pointer _ = Value.pointer (some (Addr.add ⟨g, 0, none⟩ (lo * sz + k.toNat * sz)))
    simp only [Y0, Nat.zero_add]
def SrcE (own : List Own) (E : EnvF) (q : Operand) (sz : Nat) (fs : List (List AV)) : Prop :=
  ∀ (G : Nat → Prop) (w0 : World) (R0 R : RHeap) (a : Act) (w : World), Core G w0 R0 own R w → (∀ t, q = .tmp t → ∀ y, E t = some y → y.den R (a.tmps.getD t undef)) →
    (∀ f ∈ fs, f.length = sz) ∧ ∃ oa cap vs, a.eval q = .slice oa fs.length cap ∧ (fs ≠ [] → ∃ ad, oa = some ad ∧ (∀ j u, vs[j]? = some u → w.cell? (ad.add j) = some u) ∧ DenC R vs fs.flatten)
def headV (k sz : Nat) : Value → Value
  | .slice a _ c => sliced a 0 k c sz
  | v => v
theorem Ao2 {q : Operand} {v : Value} {k : Nat} {e : TypeId} {sz : Nat} {es : List (List AV)} (i : Nat) (hi : own[i]? = some (.arr v e sz es)) (hq : Ev E q (AV.is (tailV k sz v))) (hk : k ≤ es.length) : SrcE own E q sz (es.drop k) := fun G w0 R0 R a w hc he => by
  have e1 : a.eval q = _ := hq R a he
  have hok := hc.owned _ (H4 hi)
  have hu := hok.2.1
  refine ⟨fun f hf => hu f (List.mem_of_mem_drop hf), ?_⟩
  obtain ⟨_, _, xs0, hown0, _⟩ := hok
  rcases hown0.2 with ⟨h1, h2⟩ | ⟨g, cap, cur0, h1, _⟩
  · subst h1
    have h3 : es = [] := List.eq_nil_of_length_eq_zero h2
    subst h3
    have : k = 0 := by simpa using hk
    subst this
    exact ⟨none, 0, [], by rw [e1]; rfl, fun h => absurd rfl h⟩
  · subst h1
    by_cases hne : es.drop k = []
    · refine ⟨_, cap - k, [], by rw [e1, List.length_drop]; rfl, fun h => absurd hne h⟩
    · have hsrc := src_own (own := own) (E := E) (q := q) (k := k) i hi hq
      obtain ⟨_, h7⟩ := hsrc G w0 R0 R a w hc he
      obtain ⟨ad, c, vs, k1, k2, k3⟩ := h7 hne
      exact ⟨_, c, vs, k1, fun _ => ⟨ad, rfl, k2, k3⟩⟩
theorem Ao3 {q : Operand} {v : Value} {k : Nat} {e : TypeId} {sz : Nat} {es : List (List AV)} (i : Nat) (hi : own[i]? = some (.arr v e sz es)) (hq : Ev E q (AV.is (headV k sz v))) (hk : k ≤ es.length) : SrcE own E q sz (es.take k) := fun G w0 R0 R a w hc he => by
  have e1 : a.eval q = _ := hq R a he
  have hok := hc.owned _ (H4 hi)
  have hu := hok.2.1
  have hlk : (es.take k).length = k := by rw [F4]; omega
  refine ⟨fun f hf => hu f (List.mem_of_mem_take hf), ?_⟩
  obtain ⟨_, _, xs0, hown0, _⟩ := hok
  rcases hown0.2 with ⟨h1, h2⟩ | ⟨g, cap, cur0, h1, _⟩
  · subst h1
    have h3 : es = [] := List.eq_nil_of_length_eq_zero h2
    subst h3
    have : k = 0 := by simpa using hk
    subst this
    exact ⟨none, 0, [], by rw [e1]; rfl, fun h => absurd rfl h⟩
  · subst h1
    have hv : headV k sz (slv g es.length cap) = slv g k cap := Aa9 g k cap sz
    rw [hv] at e1
    obtain ⟨hl, hlc, _, hu2, cur, xs, hg, hcs, htake, hxl, hd⟩ := AV1 (hc.owned _ (H4 hi))
    have hmul : k * sz ≤ es.length * sz := Nat.mul_le_mul_right sz hk
    refine ⟨_, cap, xs.take (k * sz), by rw [e1, hlk], fun _ => ⟨_, rfl, fun j u hu' => ?_, ?_⟩⟩
    · have hj : j < k * sz := by have := (List.getElem?_eq_some_iff.1 hu').1; rw [F4] at this; omega
      rw [List.getElem?_take_of_lt hj, ← htake, List.getElem?_take_of_lt (by omega), Array.getElem?_toList] at hu'
      rw [Y0, Nat.zero_add]
      simp [World.cell?, hg, hu']
    · rw [X4 k hu]
      exact ⟨by simp [hd.1], fun i u x hu' hx => by
        by_cases hij : i < k * sz
        · simp only [List.getElem?_take_of_lt hij] at hu' hx; exact hd.2 i u x hu' hx
        · rw [List.getElem?_eq_none (by simp; omega)] at hu'; cases hu'⟩
theorem w_ahiT {t e : TypeId} {p q : Operand} {v : Value} {sz : Nat} {es : List (List AV)} {k : Int} (i : Nat) (ho : o.op = .slice t p none (some q) none) (ht : P.underlying t = some (.slice e)) (hsz : ∀ w, (sizeOf e).run P w = .ok sz w) (hp : Ev E p (AV.is v)) (hi' : own[i]? = some (.arr v e sz es)) (hq : Ev E q (AV.int k)) (h0 : 0 ≤ k) (h1 : k ≤ es.length) :
    OpW P G n own o E (AV.is (headV k.toNat sz v)) := T4 fun w0 R0 R a w hcore he => by
  have e1 : a.eval p = v := G7 hp (by simp [ho, Op.operands]) he
  have e2 : a.eval q = .int .i64 k := G7 hq (by simp [ho, Op.operands]) he
  have hel : P.elem t = e := by simp [Program.elem, ht]
  obtain ⟨_, _, xs, hown, _⟩ := hcore.owned _ (H4 hi')
  obtain ⟨oa, c, rfl, hnc⟩ := j4 hown
  have hr1 := run_slice_h (P := P) (w := w) (t := t) (a := oa) (len := es.length) (cap := c) (by rw [hel]; exact ht) .i64 k h0 (by omega)
  rw [hel, hsz, Result.andThen_ok] at hr1
  exact ⟨sliced oa 0 k.toNat c sz, by simp only [execOp, ho, e1, e2, Option.map_some, Option.map_none, run_sliceAt_slice w t _ _ _ _ (by rw [hel]; exact ht), hr1, Sem.run_bind, Sem.run_pure, Result.andThen_ok], rfl⟩
theorem AF7 {ops : Array Oper} {t e : TypeId} {p q : Operand} {sz by' : Nat} {inf : TypeInfo} {z : Value} {v : Value} {es fs : List (List AV)} (i : Nat) (ho : o.op = .call { callee := .builtin .append, args := #[p, q], argTypes := #[t, t] }) (ht : P.underlying t = some (.slice e)) (hinf : P.info? e = some inf) (hz : inf.zero = some z) (hsz : inf.size = sz) (hby : inf.bytes = by') (hzs : z.cells.size = sz) (hpos : Nat.ble 1 sz = true) (hpos2 : Nat.ble 1 by' = true) (hp : Ev E p (AV.is v)) (hq : SrcE own E q sz fs) (hi : own[i]? = some (.arr v e sz es))
    (hlen : (es.length + fs.length) * by' ≤ 140737488355328) : OpE P G n own ops o E (fun _ : Value => True) (fun v' => own.set i (.arr v' e sz (es ++ fs))) (fun v' => AV.is v') :=
  fun w0 R0 R a w h1 h3 h2 => by
    have e1 : a.eval p = v := AH1 (ops := ops) hp (by simp [ho, Op.operands, Call.operands]) h2
    obtain ⟨hu, oa, c, ns, e2, hcell⟩ := hq G w0 R0 R a w h1 (fun t ht y hy => h2 t (i0 (by subst ht; exact List.mem_filterMap.2 ⟨.tmp t, by simp [ho, Op.operands, Call.operands], rfl⟩)) y hy)
    obtain ⟨hR, hue, xs, hown, hdc⟩ := h1.owned _ (H4 hi)
    have hb1 := Nat.le_of_ble_eq_true hpos
    have hb2 := Nat.le_of_ble_eq_true hpos2
    have hsum : es.length + fs.length ≤ 140737488355328 := Nat.le_trans (Nat.le_mul_of_pos_right _ hb2) hlen
    have hufs : ∀ x ∈ es ++ fs, x.length = sz := fun x hx => by
      rcases List.mem_append.1 hx with h | h
      · exact hue x h
      · exact hu x h
    by_cases hfs : fs = []
    · subst hfs
      have hrun : ∃ v', (Builtin.append_ #[t, t] o.type #[v, a.eval q]).run P w = .ok v' w ∧ v' = v := by
        refine ⟨v, ?_, rfl⟩
        rw [e2]
        rcases hown.2 with ⟨rfl, hz0⟩ | ⟨g, cap, cur, rfl, _, _, hnc, _⟩
        · cases oa with
          | none => simp [Builtin.append_, run_underlying ht, sizeOf, typeInfo, hinf, Builtin.lenOf, Builtin.firstCells, hz0]
          | some ad => simp [Builtin.append_, run_underlying ht, sizeOf, typeInfo, hinf, Builtin.lenOf, Builtin.firstCells, loadCells, loadCellsFrom, hz0]
        · cases oa with
          | none => simp [Builtin.append_, run_underlying ht, sizeOf, typeInfo, hinf, Builtin.lenOf, Builtin.firstCells, hnc, storeCells]
          | some ad => simp [Builtin.append_, run_underlying ht, sizeOf, typeInfo, hinf, Builtin.lenOf, Builtin.firstCells, loadCells, loadCellsFrom, hnc, storeCells]
      obtain ⟨v', hr, rfl⟩ := hrun
      have hex : (execOp a.eval o).run P w = .ok (.value v') w := by
        simp only [execOp, ho, resolve, invoke, builtin, Sem.run_bind, Sem.run_pure, Result.andThen_ok, List.map_toArray, List.map_cons, List.map_nil, e1, hr]
      unfold Oper.wp
      rw [hex, Oper.upon_value]
      have hset : own.set i (.arr v' e sz (es ++ [])) = own := by
        rw [List.append_nil]
        obtain ⟨hlt, he⟩ := List.getElem?_eq_some_iff.1 hi
        rw [← he]; exact List.set_getElem_self hlt
      exact ⟨v', v', R, trivial, rfl, by show Core G w0 R0 (own.set i (.arr v' e sz (es ++ []))) R w; rw [hset]; exact h1, RSub.refl _, rfl⟩
    · obtain ⟨ad, rfl, hn2, hn3⟩ := hcell hfs
      have hn1 : ns.length = fs.flatten.length := hn3.1
      have hnl : ns.length = fs.length * sz := by rw [hn1, T6 hu]
      have hone : ∀ u ∈ ns, u.oneCell' = true := fun u hm => by
        obtain ⟨j, hj⟩ := List.getElem?_of_mem hm
        have hjl : j < fs.flatten.length := by rw [← hn1]; exact (List.getElem?_eq_some_iff.1 hj).1
        exact (hn3.2 j u _ hj (List.getElem?_eq_getElem hjl)).2
      obtain ⟨v', w', hr, hown', hgr, _, hblk⟩ := run_append_own_at (P := P) w 0 t o.type e inf z sz by' ht hinf hz hsz hby hzs hb1 v es.length xs hown ad fs.length c ns hnl hn2 hone (by unfold maxLen; omega) hlen (Nat.zero_le _)
      have hex : (execOp a.eval o).run P w = .ok (.value v') w' := by
        simp only [execOp, ho, resolve, invoke, builtin, Sem.run_bind, Sem.run_pure, Result.andThen_ok, List.map_toArray, List.map_cons, List.map_nil, e1, e2, hr]
      unfold Oper.wp
      rw [hex, Oper.upon_value]
      refine ⟨v', v', R, trivial, rfl, r4 h1 hi (fun b hb => ?_) ⟨fun b hb => ?_, hufs, xs ++ ns, ?_, ?_⟩ hgr, RSub.refl _, rfl⟩
      · simp only [Own.blk] at hb ⊢
        rcases hblk with h | h
        · exact .inl (by rw [← h]; exact hb)
        · rw [hb] at h; injection h with h; exact .inr h
      · rcases hblk with h | h
        · exact hR b (by rw [← h]; exact hb)
        · rw [hb] at h; injection h with h; subst h; exact o4 h1.rle
      · rw [I6]; exact hown'
      · rw [List.flatten_append]; exact i5 hdc hn3

theorem lt_tailm {α : Type} {f : α → List AV} {l : List α} {v : Value} {e : TypeId} {sz lo k : Nat} (hm : Own.arr v e sz (l.map f) ∈ own) (hlo : lo = k) (hk : k ≤ l.length) : LendTo own (AV.is (tailV lo sz v)) (AV.list sz ((l.drop k).map f)) := fun G w0 R0 R w u hc hu => by
  subst hlo
  cases (show u = tailV lo sz v from hu)
  obtain ⟨_, _, xs, hown, _⟩ := hc.owned _ hm
  obtain ⟨oa, c, hv, hnc⟩ := j4 hown
  have h1 := i6 hm W8 G w0 R0 R w v hc rfl
  obtain ⟨oa', c', e1, k1, k2, k3, k4⟩ := h1
  subst e1
  have h9 := AJ0 (R := lend own w R) (lo := lo) (hi := (l.map f).length) (es := l.map f) (oa := oa') rfl k1 k2 k3 k4 (by rw [A6]; exact hk) (Nat.le_refl _)
  rw [List.take_length, ← List.map_drop] at h9
  exact h9
end
end Go.AV

namespace Go.Proofs
open Go.Shelf
def Tryz.sortStrs_ren : Go.Shelf.Ren := ⟨fun | 190 => 189 | 125 => 102 | 258 => 221 | 128 => 157 | 129 => 158 | 302 => 232 | 303 => 233 | 304 => 234 | 305 => 235 | 306 => 236 | 307 => 237 | 308 => 238 | 309 => 239 | 310 => 240 | 333 => 242 | 329 => 194 | 330 => 195 | 334 => 243 | 335 => 244 | 336 => 160 | 344 => 245 | n => n, fun | 31 => 99 | 9 => 9 | 3 => 3 | 46 => 158 | 0 => 0 | 51 => 200 | 53 => 112 | 4 => 4 | 183 => 194 | 182 => 193 | 131 => 24 | 5 => 5 | 218 => 228 | 222 => 232 | 228 => 251 | 229 => 252 | n => n, fun | n => n⟩
theorem Tryz.sortStrs : Go.Proofs.Lays.n190 Tryz.prog Tryz.sortStrs_ren := {
  mixed := by kernel_rfl
  f125 := Tryz.func102.trans (congrArg some (by kernel_rfl))
  f128 := Tryz.func157.trans (congrArg some (by kernel_rfl))
  f129 := Tryz.func158.trans (congrArg some (by kernel_rfl))
  f190 := Tryz.func189.trans (congrArg some (by kernel_rfl))
  f258 := Tryz.func221.trans (congrArg some (by kernel_rfl))
  f302 := Tryz.func232.trans (congrArg some (by kernel_rfl))
  f303 := Tryz.func233.trans (congrArg some (by kernel_rfl))
  f304 := Tryz.func234.trans (congrArg some (by kernel_rfl))
  f305 := Tryz.func235.trans (congrArg some (by kernel_rfl))
  f306 := Tryz.func236.trans (congrArg some (by kernel_rfl))
  f307 := Tryz.func237.trans (congrArg some (by kernel_rfl))
  f308 := Tryz.func238.trans (congrArg some (by kernel_rfl))
  f309 := Tryz.func239.trans (congrArg some (by kernel_rfl))
  f310 := Tryz.func240.trans (congrArg some (by kernel_rfl))
  f329 := Tryz.func194.trans (congrArg some (by kernel_rfl))
  f330 := Tryz.func195.trans (congrArg some (by kernel_rfl))
  f333 := Tryz.func242.trans (congrArg some (by kernel_rfl))
  f334 := Tryz.func243.trans (congrArg some (by kernel_rfl))
  f335 := Tryz.func244.trans (congrArg some (by kernel_rfl))
  f336 := Tryz.func160.trans (congrArg some (by kernel_rfl))
  f344 := Tryz.func245.trans (congrArg some (by kernel_rfl))
  t0 := Tryz.underlying0
  a0 := Tryz.isAgg0
  z0 := Tryz.sizeOf0
  v0 := Tryz.zeroValue0
  t3 := M9
  a3 := D2
  z3 := B9
  v3 := Tryz.zeroValue3
  t4 := N5
  a4 := I5
  z4 := F8
  v4 := Tryz.zeroValue4
  t5 := Tryz.underlying5
  a5 := Tryz.isAgg5
  z5 := Tryz.sizeOf5
  v5 := Tryz.zeroValue5
  t9 := I3
  a9 := E5
  z9 := C6
  v9 := Tryz.zeroValue9
  t31 := D5
  a31 := L6
  z31 := K1
  v31 := Tryz.zeroValue99
  t46 := Tryz.underlying158
  a46 := Tryz.isAgg158
  z46 := Tryz.sizeOf158
  v46 := Tryz.zeroValue158
  t51 := Tryz.underlying200
  a51 := Tryz.isAgg200
  z51 := Tryz.sizeOf200
  v51 := Tryz.zeroValue200
  t53 := Tryz.underlying112
  a53 := Tryz.isAgg112
  z53 := Tryz.sizeOf112
  v53 := Tryz.zeroValue112
  t131 := Tryz.underlying24
  a131 := Tryz.isAgg24
  z131 := Tryz.sizeOf24
  v131 := Tryz.zeroValue24
  t182 := Tryz.underlying193
  a182 := Tryz.isAgg193
  z182 := Tryz.sizeOf193
  v182 := Tryz.zeroValue193
  t183 := Tryz.underlying194
  a183 := Tryz.isAgg194
  z183 := Tryz.sizeOf194
  v183 := Tryz.zeroValue194
  t218 := Tryz.underlying228
  a218 := Tryz.isAgg228
  z218 := Tryz.sizeOf228
  v218 := Tryz.zeroValue228
  t222 := Tryz.underlying232
  a222 := Tryz.isAgg232
  z222 := Tryz.sizeOf232
  v222 := Tryz.zeroValue232
  t228 := Tryz.underlying251
  a228 := Tryz.isAgg251
  z228 := Tryz.sizeOf251
  v228 := Tryz.zeroValue251
  t229 := Tryz.underlying252
  a229 := Tryz.isAgg252
  z229 := Tryz.sizeOf252
  v229 := Tryz.zeroValue252 }
end Go.Proofs

namespace Go.Proofs.YtkegepoihkhihaaGreat
open Go Go.AV Go.M
attribute [local irreducible] OpW OpA OpS AWP FSpec ESpec GSpec OpE RetOk RetOkG RvDen Le Ev GuardIs SrcIs Int.tmod Int.tdiv IntKind.wrap
theorem AY7 (v : Value) (l : List Str) (hl : l.length < 4611686018427387904) : GSpec Tryz.prog 189 [AV.is v] [.arr v 9 1 (l.map fun s => [AV.str s])] (fun _ : Unit => True) (fun _ => [.arr v 9 1 ((sortS l).map fun s => [AV.str s])]) (fun _ => AV.tup []) :=
  row_own1 Go.Proofs.encStr (fun _ => rfl) sortS AQ2
    (fun blk off cap zs w h1 h2 h3 => Any.slices_Sort_string Tryz.sortStrs blk off cap zs w h1 h2 h3) (fun p cap w => Any.slices_Sort_string_none Tryz.sortStrs p cap w) v l hl
end Go.Proofs.YtkegepoihkhihaaGreat

namespace Go.Proofs.YtkegepoihkhihaaGreat
open Go Go.AV Go.M
attribute [local irreducible] OpW OpA OpS AWP FSpec ESpec GSpec OpE RetOk RetOkG RvDen Le Ev GuardIs SrcIs Int.tmod Int.tdiv IntKind.wrap
theorem p7 {l : List Str} {i j : Nat} {s : Str} (h : l[i]? = some s) (hj : j = i * 1) : ((l.map fun s => [AV.str s]).flatten)[j]? = some (AV.str s) := by
  rw [hj, Nat.mul_one]
  have e : (l.map fun s => [AV.str s]).flatten = l.map AV.str := by
    clear h
    induction l with
    | nil => rfl
    | cons x l ih => simp [ih]
  rw [e, List.getElem?_map, h]; rfl
theorem AN8 (v : Value) (l : List Str) (hl : l.length ≤ 4194304) : GSpec Tryz.prog 190 [AV.is v] [.arr v 9 1 (l.map fun s => [AV.str s])]
   (fun _ : Value => True) (fun v => [.arr v 9 1 ((cmpL l).map fun s => [AV.str s])]) (fun v => AV.is v) := by
 refine K0 Tryz.func190 rfl Tryz.ntmps190 rfl ?_
 refine A3 (A2 ?_)
 refine A1 rfl (A9 rfl S2) ?_
 refine A4 (A3 (A3 (A2 ?_)))
 refine A5 rfl ?_
 refine A1 rfl (V3 0 rfl D5 (A0 rfl) rfl) ?_
 refine A1 rfl (G0 rfl (A0 rfl) B4) ?_
 refine A4 ?_
 refine C0 (A0 rfl) ?_ ?_
 ·intro h8
  have k8 := of_decide_eq_true h8; try simp only [A6] at k8
  have hall : cmpL l = l := by (unfold cmpL; rw [r8 (Nat.le_refl _) (fun i h1 h2 => by omega), List.take_length])
  refine A3 (A2 ?_)
  refine A5 rfl ?_
  refine B3 rfl ?_
  refine A4 ?_
  refine B8 ?_
  exact V4 [0] v (trivial) rfl (by first | exact congrArg (fun z => [Own.arr _ 9 1 (List.map (fun s => [AV.str s]) z)]) hall | (refine congrArg (fun z => [Own.arr _ 9 1 z]) ?_; exact (AM5 hinv.2.2.2.2.1 hge (by omega)).symm)) (U3 rfl (B7 rfl (by first | rfl | (refine congrArg AV.bool ?_; simp_all; done))))
 intro h8
 have k8 := of_decide_eq_false h8; try simp only [A6] at k8
 refine C1 (A3 (A3 (A2 ?_)))
 refine A1 rfl (A9 rfl B4) ?_
 refine A4 (C4 ?_)
 refine H2 [(0, _)] _ (fun (k : Nat) => (1 ≤ k ∧ k ≤ l.length) ∧ ∀ i, 1 ≤ i → i < k → l[i]? ≠ l[i - 1]?) (fun (k : Nat) => []) (fun (k : Nat) => [(3, AV.int k)]) (fun (k : Nat) => l.length - k) (1) ?_ (H1 ⟨rfl, rfl, trivial⟩) ?_
 ·exact ⟨⟨Nat.le_refl _, by omega⟩, fun i h1 h2 => by omega⟩
 intro k hinv
 refine A3 (A3 (A2 ?_))
 refine A5 rfl ?_
 refine A5 rfl ?_
 refine A1 rfl (V3 0 rfl D5 (A0 rfl) rfl) ?_
 refine A1 rfl (G0 rfl (A0 rfl) (A0 rfl)) ?_
 refine A4 ?_
 refine C0 (A0 rfl) ?_ ?_
 ·intro h13
  have k13 := of_decide_eq_true h13; try simp only [A6] at k13
  have hlt : k < l.length := by omega
  obtain ⟨x, hx⟩ := get_some hlt
  obtain ⟨y, hy⟩ := get_some (show k - 1 < l.length by omega)
  refine C1 (A3 (C4 (A3 ?_)))
  refine H7 (by kernel_rfl) (by kernel_rfl) rfl ?_
  refine B5 rfl rfl (C2 rfl (A0 rfl)) ?_
  refine B5 rfl rfl (C2 rfl (A0 rfl)) ?_
  refine B5 rfl rfl (L0 0 rfl D5 C6 (A0 rfl) rfl (A0 rfl) (by first | omega | (simp only [D4, B0, szR] at *; omega)) (by first | omega | (simp only [D4, B0, szR] at *; omega))) ?_
  refine B5 rfl rfl (e7 0 rfl (A0 rfl) rfl E5 (p7 hx (by omega))) ?_
  refine B5 rfl rfl (C2 rfl (A0 rfl)) ?_
  refine B5 rfl rfl (C2 rfl (A0 rfl)) ?_
  refine B5 rfl rfl (P4 rfl (A0 rfl) B4 (by first | omega | (simp only [D4, B0, szR] at *; omega))) ?_
  refine B5 rfl rfl (L0 0 rfl D5 C6 (A0 rfl) rfl (A0 rfl) (by first | omega | (simp only [D4, B0, szR] at *; omega)) (by first | omega | (simp only [D4, B0, szR] at *; omega))) ?_
  refine B5 rfl rfl (e7 0 rfl (A0 rfl) rfl E5 (p7 hy (by omega))) ?_
  refine B5 rfl rfl (o3 rfl (A0 rfl) (A0 rfl)) ?_
  refine O5 ?_
  refine C0 (A0 rfl) ?_ ?_
  ·intro h25
   have hxy : l[k]? = l[k - 1]? := by (rw [hx, hy]; have h9 := h25; simp at h9; rw [h9])
   have hinv0 := hinv
   refine A3 (A2 ?_)
   refine A5 rfl ?_
   refine A5 rfl ?_
   refine A1 rfl (AT9 0 rfl D5 C6 (A0 rfl) rfl (A0 rfl) (by first | omega | (simp only [D4, B0, szR] at *; omega)) (by first | omega | (simp only [D4, B0, szR] at *; omega))) ?_
   refine B3 rfl ?_
   refine A4 (A3 (A3 (A2 ?_)))
   refine A1 rfl (A9 rfl B4) ?_
   refine A4 (C4 ?_)
   refine Y8 [(0, _), (4, _), (10, _), (11, _), (12, _), (13, _), (16, _), (17, _), (18, _), (19, _), (20, _), (21, _), (22, _), (23, _), (24, _), (25, _), (26, _), (27, _), (28, _)] _ (fun (i : Nat) (j : Nat) (m : List Str) => 1 ≤ j ∧ k + j ≤ l.length ∧ i + 1 ≤ k + j ∧ m.length = l.length ∧ m.take i = cmpN l (k + j) ∧ m.drop (k + j - 1) = l.drop (k + j - 1)) (fun (i : Nat) (j : Nat) (m : List Str) => [.arr v 9 1 (m.map fun s => [AV.str s])]) (fun (i : Nat) (j : Nat) (m : List Str) => [(3, AV.int i), (5, AV.int j)]) (fun (i : Nat) (j : Nat) (m : List Str) => l.length - (k + j)) (k) (1) (l) ?_ (K7 (by rfl) ⟨rfl, rfl, rfl, rfl, rfl, rfl, rfl, rfl, rfl, rfl, rfl, rfl, rfl, rfl, rfl, rfl, rfl, rfl, rfl, rfl, rfl, trivial⟩) ?_
   ·exact ⟨Nat.le_refl _, by omega, by omega, rfl, by rw [AP8 (by omega) hxy, r8 (by omega) hinv0.2], rfl⟩
   intro i j m hinv
   refine A3 (A3 (A2 ?_))
   refine A5 rfl ?_
   refine A5 rfl ?_
   refine A1 rfl (w_tlen 0 rfl D5 (A0 rfl) rfl) ?_
   refine A1 rfl (G0 rfl (A0 rfl) (A0 rfl)) ?_
   refine A4 ?_
   refine C0 (A0 rfl) ?_ ?_
   ·intro h32
    have k32 := of_decide_eq_true h32; try simp only [A6] at k32
    have hm := hinv.2.2.2.1
    have hlt1 : k + j < l.length := by omega
    obtain ⟨x1, hx1⟩ := get_some hlt1
    obtain ⟨y1, hy1⟩ := get_some (show k + j - 1 < l.length by omega)
    have hmx := AC4 hinv.2.2.2.2.2 hx1 (by omega)
    have hmy := AC4 hinv.2.2.2.2.2 hy1 (by omega)
    refine C1 (A3 (C4 (A3 ?_)))
    refine H7 (by kernel_rfl) (by kernel_rfl) rfl ?_
    refine B5 rfl rfl (C2 rfl (A0 rfl)) ?_
    refine B5 rfl rfl (C2 rfl (A0 rfl)) ?_
    refine B5 rfl rfl (AY6 0 rfl D5 C6 (A0 rfl) rfl (A0 rfl) (by omega) (by simp only [A6]; omega)) ?_
    refine B5 rfl rfl (e7 0 rfl (A0 rfl) rfl E5 (p7 hmx (by rw [show ((k : Int).toNat + (j : Int).toNat) = k + j by omega]))) ?_
    refine B5 rfl rfl (C2 rfl (A0 rfl)) ?_
    refine B5 rfl rfl (C2 rfl (A0 rfl)) ?_
    refine B5 rfl rfl (P4 rfl (A0 rfl) B4 (by first | omega | (simp only [D4, B0, szR] at *; omega))) ?_
    refine B5 rfl rfl (AY6 0 rfl D5 C6 (A0 rfl) rfl (A0 rfl) (by omega) (by simp only [A6]; omega)) ?_
    refine B5 rfl rfl (e7 0 rfl (A0 rfl) rfl E5 (p7 hmy (by rw [show ((k : Int).toNat + ((j : Int) - 1).toNat) = k + j - 1 by omega]))) ?_
    refine B5 rfl rfl (Y6 rfl (A0 rfl) (A0 rfl)) ?_
    refine O5 ?_
    refine C0 (A0 rfl) ?_ ?_
    ·intro h44
     refine A3 (A2 ?_)
     refine A5 rfl ?_
     refine A5 rfl ?_
     refine A5 rfl ?_
     refine A5 rfl ?_
     refine A1 rfl (AY6 0 rfl D5 C6 (A0 rfl) rfl (A0 rfl) (by omega) (by simp only [A6]; omega)) ?_
     refine A1 rfl (e7 0 rfl (A0 rfl) rfl E5 (p7 hmx (by rw [show ((k : Int).toNat + (j : Int).toNat) = k + j by omega]))) ?_
     refine A1 rfl (L0 0 rfl D5 C6 (A0 rfl) rfl (A0 rfl) (by omega) (by simp only [A6]; omega)) ?_
     refine R8 0 rfl rfl rfl (A0 rfl) (A0 rfl) (Q7 _) rfl C6 rfl (by simp only [A6, Int.toNat_natCast]; omega) ?_
     refine A4 (A2 ?_)
     refine A5 rfl ?_
     refine A1 rfl (F1 rfl (A0 rfl) B4 (by first | omega | (simp only [D4, B0, szR] at *; omega))) ?_
     refine B3 rfl ?_
     refine A4 (A2 ?_)
     refine A5 rfl ?_
     refine A1 rfl (F1 rfl (A0 rfl) B4 (by first | omega | (simp only [D4, B0, szR] at *; omega))) ?_
     refine B3 rfl ?_
     refine A4 ?_
     refine X7 i j m (i + 1) (j + 1) (m.set i x1) ?_ ?_ (K7 (by first | exact congrArg (fun z => [Own.arr v 9 1 z]) (List.map_set).symm | rfl) ⟨rfl, rfl, rfl, rfl, rfl, rfl, rfl, rfl, rfl, rfl, rfl, rfl, rfl, rfl, rfl, rfl, rfl, rfl, rfl, rfl, rfl, trivial⟩)
     ·exact cmp_keep hinv (by omega) hx1 hy1 (by simpa using h44)
     omega
    intro h44
    refine C1 (A2 ?_)
    refine A5 rfl ?_
    refine A1 rfl (F1 rfl (A0 rfl) B4 (by first | omega | (simp only [D4, B0, szR] at *; omega))) ?_
    refine B3 rfl ?_
    refine A4 ?_
    refine X7 i j m (i) (j + 1) (m) ?_ ?_ (K7 (by first | exact congrArg (fun z => [Own.arr v 9 1 z]) (List.map_set).symm | rfl) ⟨rfl, rfl, rfl, rfl, rfl, rfl, rfl, rfl, rfl, rfl, rfl, rfl, rfl, rfl, rfl, rfl, rfl, rfl, rfl, rfl, rfl, trivial⟩)
    ·exact cmp_skip hinv (by omega) hx1 hy1 (by simpa using h44)
    omega
   intro h32
   have k32 := of_decide_eq_false h32; try simp only [A6] at k32
   have hm := hinv.2.2.2.1
   have hge : k + j = l.length := by omega
   refine F5 ?_
   refine A3 (A2 ?_)
   refine A5 rfl ?_
   refine A5 rfl ?_
   refine A1 rfl (AT9 0 rfl D5 C6 (A0 rfl) rfl (A0 rfl) (by first | omega | (simp only [D4, B0, szR] at *; omega)) (by first | omega | (simp only [D4, B0, szR] at *; omega))) ?_
   refine Al7 0 rfl rfl rfl D5 Tryz.zeroValue9 rfl rfl (by decide) (A0 rfl) rfl (by simp only [A6, Int.toNat_natCast]; omega) ?_
   refine A4 (A3 (A2 ?_))
   refine A5 rfl ?_
   refine A5 rfl ?_
   refine sq_ahi 0 rfl rfl rfl rfl D5 C6 (A0 rfl) rfl (A0 rfl) (by omega) (by simp only [A6, I6, F4, List.length_replicate]; omega) ?_
   intro v59_1
   refine B3 rfl ?_
   refine A4 ?_
   refine B8 ?_
   exact V4 [0] v59_1 (trivial) rfl (by first | exact congrArg (fun z => [Own.arr _ 9 1 (List.map (fun s => [AV.str s]) z)]) hall | (refine congrArg (fun z => [Own.arr _ 9 1 z]) ?_; exact (AM5 hinv.2.2.2.2.1 hge (by omega)).symm)) (U3 rfl (B7 rfl (by first | rfl | (refine congrArg AV.bool ?_; simp_all; done))))
  intro h25
  refine C1 (A2 ?_)
  refine A5 rfl ?_
  refine A1 rfl (F1 rfl (A0 rfl) B4 (by first | omega | (simp only [D4, B0, szR] at *; omega))) ?_
  refine B3 rfl ?_
  refine A4 ?_
  refine I0 k (k + 1) ?_ ?_ (H1 ⟨rfl, rfl, trivial⟩)
  ·exact ⟨⟨by omega, by omega⟩, fun i h1 h2 => if e : i = k then (by subst e; rw [hx, hy]; intro e; injection e with e; subst e; simp at h25) else hinv.2 i h1 (by omega)⟩
  omega
 intro h13
 have k13 := of_decide_eq_false h13; try simp only [A6] at k13
 have hall : cmpL l = l := by (unfold cmpL; rw [r8 (Nat.le_refl _) (fun i h1 h2 => hinv.2 i h1 (by omega)), List.take_length])
 refine F5 ?_
 refine A3 (A2 ?_)
 refine A5 rfl ?_
 refine B3 rfl ?_
 refine A4 ?_
 refine B8 ?_
 exact V4 [0] v (trivial) rfl (by first | exact congrArg (fun z => [Own.arr _ 9 1 (List.map (fun s => [AV.str s]) z)]) hall | (refine congrArg (fun z => [Own.arr _ 9 1 z]) ?_; exact (AM5 hinv.2.2.2.2.1 hge (by omega)).symm)) (U3 rfl (B7 rfl (by first | rfl | (refine congrArg AV.bool ?_; simp_all; done))))
end Go.Proofs.YtkegepoihkhihaaGreat

namespace Go.M
open Go.AV
theorem Ao4 {l : List TWrite} (h : adj wLess l = true) (k : Str) : wHas l k = hasK l k := by
  have e := findW_eq h k
  cases hw : wHas l k with
  | true =>
    obtain ⟨x, hx, hk⟩ := wHas_iff.1 hw
    exact (Y4.2 ⟨x, H4 hx, hk⟩).symm
  | false =>
    rw [hw] at e
    simp only [Bool.false_eq_true, if_false] at e
    unfold findW at e
    rw [List.find?_eq_none] at e
    cases hk : hasK l k with
    | false => rfl
    | true => obtain ⟨x, hx, hxk⟩ := Y4.1 hk; have := e x hx; simp [hxk] at this
theorem Aj4 {w : List TWrite} (h : goodWrites w = true) : adj wLess w = true := by
  unfold goodWrites areRising wKeys at h
  simp only [Bool.and_eq_true] at h
  have := h.1.2.2
  rw [AE4] at this
  exact this
theorem Ao5 {l : List TCell} (ha : adj cLess l = true) {k : Str} {c : TCell} (hc : cHas l k = true → l[cPos l k]? = some c) : fullC l k = (cHas l k && decide ((16 : Int) ≤ (c.Vers.length : Int))) := by
  unfold fullC
  rw [AH7 ha]
  cases h : cHas l k with
  | false => simp
  | true =>
    rw [if_pos rfl, hc h, Bool.true_and]
    dsimp only
    rw [decide_eq_decide]; omega
theorem m8 {l : List THeld} {i : Nat} {h : THeld} {n : Nat} (hs : sizeL THeld.size l ≤ n) (hx : l[i]? = some h) : h.size ≤ n ∧ sizeL TWrite.size h.Writes ≤ n ∧ h.Writes.length ≤ n ∧ h.Reads.length ≤ n ∧ (hRec h).size ≤ n := by
  have h1 := Nat.le_trans (Q5 hx) hs
  have h2 : h.size = sizeL (fun x => x.length) h.Reads + sizeL TWrite.size h.Writes := rfl
  have h3 := L1 (f := fun x : Str => x.length) (l := h.Reads)
  have h4 := L1 (f := TWrite.size) (l := h.Writes)
  have h5 : (hRec h).size = sizeL (fun x => x.length) h.Reads + sizeL TWrite.size h.Writes := rfl
  exact ⟨by omega, by omega, by omega, by omega, by omega⟩
theorem AS7 {α : Type} {f : α → Nat} {l : List α} (i : Nat) : sizeL f (l.take i) ≤ sizeL f l := by
  have := AX1 (f := f) (l := l.take i) (r := l.drop i)
  rw [List.take_append_drop] at this; omega
theorem Ag4 : ∀ {l : List THeld}, (hWs l).length ≤ sizeL THeld.size l
  | [] => Nat.zero_le _
  | h :: l => by
    have ih := Ag4 (l := l)
    have h4 := L1 (f := TWrite.size) (l := h.Writes)
    have h2 : h.size = sizeL (fun x => x.length) h.Reads + sizeL TWrite.size h.Writes := rfl
    rw [p4, I6, y6]; omega
theorem AY8 {l : List THeld} {i : Nat} {h : THeld} (hx : l[i]? = some h) : hWs (l.take (i + 1)) = hWs (l.take i) ++ h.Writes := by
  rw [List.take_add_one, hx, AK3]
  show _ ++ hWs [h] = _
  rw [p4]; simp [hWs]
def hCmp (n : Int) (h : THeld) : Int := cmpInt h.Txn n
def hPos (l : List THeld) (n : Int) : Nat := bs (hCmp n) l 0 l.length
def hHas (l : List THeld) (n : Int) : Bool := bsAt (hCmp n) l (hPos l n)
theorem y8 (a b : Int) : cmpInt a b < 0 ↔ a < b := by unfold cmpInt; split <;> (try split) <;> omega
theorem AF8 (a b : Int) : cmpInt a b = 0 ↔ a = b := by unfold cmpInt; split <;> (try split) <;> omega
theorem Ag5 {α : Type} {f : α → Int} {l : List α} (h : l.Pairwise fun a b => f a < f b) {i j : Nat} {x y : α} (hij : i < j) (hx : l[i]? = some x) (hy : l[j]? = some y) : f x < f y := by
  obtain ⟨i1, i2⟩ := List.getElem?_eq_some_iff.1 hx
  obtain ⟨j1, j2⟩ := List.getElem?_eq_some_iff.1 hy
  have := List.pairwise_iff_getElem.1 h i j i1 j1 hij
  rw [i2, j2] at this; exact this
theorem bsI_spec {α : Type} {f : α → Int} {l : List α} (h : l.Pairwise fun a b => f a < f b) (n : Int) : (∀ i x, i < bs (fun a => cmpInt (f a) n) l 0 l.length → l[i]? = some x → f x < n) ∧ (∀ x, l[bs (fun a => cmpInt (f a) n) l 0 l.length]? = some x → n ≤ f x) := by
  have := AM7 (fun a => cmpInt (f a) n) l (fun i j x y hij hx hy hf => by
    rw [y8] at *
    have := Ag5 h hij hx hy; omega) l.length 0 l.length rfl (Nat.zero_le _) (Nat.le_refl _) (fun k x hk => by omega) (fun x hx => by rw [List.getElem?_eq_none (Nat.le_refl _)] at hx; cases hx)
  exact ⟨fun i x hi hx => (y8 _ _).1 (this.1 i x hi hx), fun x hx => by have := this.2 x hx; rw [y8] at this; omega⟩
theorem bsI_has {α : Type} {f : α → Int} {l : List α} (h : l.Pairwise fun a b => f a < f b) (n : Int) : bsAt (fun a => cmpInt (f a) n) l (bs (fun a => cmpInt (f a) n) l 0 l.length) = l.any fun a => f a == n := by
  obtain ⟨h1, h2⟩ := bsI_spec h n
  cases ha : l.any fun a => f a == n with
  | true =>
    rw [List.any_eq_true] at ha
    obtain ⟨x, hx, e⟩ := ha
    obtain ⟨i, hi⟩ := List.getElem?_of_mem hx
    have e : f x = n := by simpa using e
    have hip : bs (fun a => cmpInt (f a) n) l 0 l.length = i := by
      rcases Nat.lt_trichotomy i (bs (fun a => cmpInt (f a) n) l 0 l.length) with h3 | h3 | h3
      · have := h1 i x h3 hi; omega
      · exact h3.symm
      · have hl := (List.getElem?_eq_some_iff.1 hi).1
        have hy := List.getElem?_eq_getElem (show bs (fun a => cmpInt (f a) n) l 0 l.length < l.length by omega)
        have h4 := h2 _ hy
        have h5 := Ag5 h h3 hy hi; omega
    rw [hip]
    unfold bsAt
    rw [hi]
    simp only [(AF8 _ _).2 e]; rfl
  | false =>
    rw [List.any_eq_false] at ha
    unfold bsAt
    cases e : l[bs (fun a => cmpInt (f a) n) l 0 l.length]? with
    | none => rfl
    | some x =>
      have := ha x (H4 e)
      simp only [beq_iff_eq] at this ⊢
      rw [beq_eq_false_iff_ne]
      exact fun k => this ((AF8 _ _).1 k)
theorem Ag6 {l : List THeld} (h : l.Pairwise fun a b => a.Txn < b.Txn) (n : Int) : hHas l n = hasH l n := bsI_has (f := THeld.Txn) h n
theorem Z4 {s : TState} {n : Nat} (h : s.size ≤ n) : sizeL TCell.size s.Cells ≤ n ∧ sizeL THeld.size s.Held ≤ n ∧ s.Told.length ≤ n ∧ s.Cells.length ≤ n ∧ s.Held.length ≤ n := by
  have h1 : s.size = sizeL TCell.size s.Cells + sizeL THeld.size s.Held + s.Told.length := rfl
  have h2 := L1 (f := TCell.size) (l := s.Cells)
  have h3 := L1 (f := THeld.size) (l := s.Held)
  exact ⟨by omega, by omega, by omega, by omega, by omega⟩
theorem m9 {s : TState} {i : Nat} {h y : THeld} (hx : s.Held[i]? = some h) (hy : s.Held[i - 1]? = some y) : heldAt s i = (!(((!goodRec (hRec h) || decide (s.Floor < h.Time)) || (decide ((0 : Int) < (i : Int)) && decide (h.Txn ≤ y.Txn)))) && (!((s.Held.take i).any fun g => clash h g) && !(h.Writes.any fun w => decide (h.Time ≤ lastTime s.Cells w.Key)))) := by
  unfold heldAt
  rw [hx]
  have h1 : hPrev s.Held i h.Txn = !(decide ((0 : Int) < (i : Int)) && decide (h.Txn ≤ y.Txn)) := by
    unfold hPrev; rw [hy]; dsimp only
    congr 2
    rw [decide_eq_decide]; omega
  have h2 : ((s.Held.take i).all fun g => apart g h.Reads h.Writes) = !((s.Held.take i).any fun g => clash h g) := by
    rw [List.not_any_eq_all_not]; congr 1; funext g; rw [AF4, Bool.not_not]
  have h3 : (h.Writes.all fun w => decide (lastTime s.Cells w.Key < h.Time)) = !(h.Writes.any fun w => decide (h.Time ≤ lastTime s.Cells w.Key)) := by
    rw [List.not_any_eq_all_not]; congr 1; funext w; rw [← decide_not, decide_eq_decide]; omega
  dsimp only
  rw [h1, h2, h3]
  simp only [Bool.not_or, Bool.not_not, Bool.and_assoc]
theorem AF9 {s : TState} {i : Nat} {h : THeld} (hx : s.Held[i]? = some h) (hg : heldAt s i = true) : goodRec (hRec h) = true ∧ ∀ g, 0 < i → s.Held[i - 1]? = some g → g.Txn < h.Txn := by
  unfold heldAt at hg
  rw [hx] at hg
  simp only [Bool.and_eq_true, AC7] at hg
  exact ⟨hg.1.1.1.1, hg.1.1.2⟩
theorem AY9 {h : THeld} (hg : goodRec (hRec h) = true) : adj wLess h.Writes = true := by
  unfold goodRec hRec at hg
  rw [if_pos rfl] at hg
  unfold good1 at hg
  simp only [Bool.and_eq_true] at hg
  exact Aj4 hg.1.1.2
theorem AZ0 {s : TState} (h : areHeld s = true) : s.Held.Pairwise fun a b => a.Txn < b.Txn := by
  unfold areHeld at h
  rw [Bool.and_eq_true, a7] at h
  exact y7 fun i x y h0 hx hy => (AF9 hx (h.1 i (List.getElem?_eq_some_iff.1 hx).1)).2 y h0 hy
theorem s4 {s : TState} {i : Nat} {t y : TTold} (hx : s.Told[i]? = some t) (hy : s.Told[i - 1]? = some y) : toldAt s i = (!((!isTxnR t.Txn || !((t.Yes && within t.Time 1 s.Floor) || (!t.Yes && (t.Time == 0)))) || (decide ((0 : Int) < (i : Int)) && decide (t.Txn ≤ y.Txn))) && !hasH s.Held t.Txn) := by
  unfold toldAt
  rw [hx]
  have h1 : tPrev s.Told i t.Txn = !(decide ((0 : Int) < (i : Int)) && decide (t.Txn ≤ y.Txn)) := by
    unfold tPrev; rw [hy]; dsimp only
    congr 2
    rw [decide_eq_decide]; omega
  have h2 : tFits s t = ((t.Yes && within t.Time 1 s.Floor) || (!t.Yes && (t.Time == 0))) := by
    unfold tFits; cases t.Yes <;> simp
  dsimp only
  rw [h1, h2]
  generalize ((t.Yes && within t.Time 1 s.Floor) || (!t.Yes && (t.Time == 0))) = b
  simp only [Bool.not_or, Bool.not_not, Bool.and_assoc]
end Go.M
namespace Go.Proofs.YtkegepoihkhihaaGreat
open Go Go.AV Go.M
attribute [local irreducible] OpW OpA OpS AWP FSpec ESpec GSpec OpE RetOk RetOkG RvDen Le Ev GuardIs SrcIs Int.tmod Int.tdiv IntKind.wrap
theorem AS8 (w : TWrite) (os : List TWrite) (rs : List Str) (hs : os.length ≤ 4611686018427387903) (ha : adj wLess os = true) : FSpec Tryz.prog 218 [AV.agg w.cs, AV.eptr [AV.list 3 (os.map TWrite.cs)], AV.eptr [strs rs]] (AV.bool (hasK os w.Key || hasS rs w.Key)) := by
 have hwh := Ao4 ha w.Key
 refine D3 Tryz.func218 rfl Tryz.ntmps218 rfl ?_
 refine A3 (A2 ?_)
 refine I8 rfl rfl rfl rfl (A0 rfl) ?_
 intro b3
 refine A1 rfl (A9 rfl E3) ?_
 refine A4 (A3 (A2 ?_))
 refine A1 rfl (J5 rfl (A0 rfl) J7 rfl) ?_
 refine A1 rfl (B2 0 rfl G2 rfl C6 (A0 rfl) rfl) ?_
 refine A1 rfl (B1 0 rfl (A0 rfl) rfl E5 rfl) ?_
 refine A1 rfl (E1 rfl Tryz.call219 rfl (AN2 _ _ (by omega)) (A8 (A0 rfl) (A8 (A0 rfl) C7))) ?_
 refine A5 rfl ?_
 refine A1 rfl (M2 rfl (A0 rfl) rfl) ?_
 refine A1 rfl (M2 rfl (A0 rfl) rfl) ?_
 refine B3 rfl ?_
 refine B3 rfl ?_
 refine A4 (A3 (A2 ?_))
 refine A5 rfl ?_
 refine A5 rfl ?_
 refine H3 rfl (fun hc => J5 rfl (A0 rfl) L6 rfl) ?_
 refine H3 rfl (fun hc => B2 0 rfl G2 rfl C6 (A0 rfl) rfl) ?_
 refine H3 rfl (fun hc => B1 0 rfl (A7 rfl hc) rfl E5 rfl) ?_
 refine H3 rfl (fun hc => E1 rfl Tryz.call220 rfl (AB0 _ _) (A8 (A7 rfl hc) (A8 (A7 rfl hc) C7))) ?_
 refine A1 rfl (O1 rfl (A0 rfl) (F3 rfl)) ?_
 refine B3 rfl ?_
 refine A4 ?_
 refine B8 ?_
 exact E4 rfl (B7 rfl (by exact congrArg AV.bool (by rw [hwh]; rfl)))
theorem AD0 (ws : List TWrite) (rs : List Str) (os : List TWrite) (hs : os.length ≤ 4611686018427387903) (ha : adj wLess os = true) : FSpec Tryz.prog 187 [AV.list 3 (ws.map TWrite.cs), strs rs, AV.list 3 (os.map TWrite.cs)] (AV.bool (overlap ws rs os)) := by
 refine D3 Tryz.func187 rfl Tryz.ntmps187 rfl ?_
 refine A3 (A2 ?_)
 refine Ae7 rfl rfl rfl rfl (A0 rfl) (AG4 _ _) ?_
 intro b4
 refine Ae7 rfl rfl rfl rfl (A0 rfl) (AG4 _ _) ?_
 intro b5
 refine A1 rfl (A9 rfl E3) ?_
 refine A4 (A3 (A2 ?_))
 refine A5 rfl ?_
 refine A1 rfl (w_clo rfl rfl (A8 (A0 rfl) (A8 (A0 rfl) C7))) ?_
 refine A1 rfl (Z1 rfl Tryz.call141 rfl (X0 _ _ _ (by first | (intros; trivial) | assumption | (intros; first | trivial | (simp_all; done)))) (C3 _) (L2 (evb (A0 rfl)) (L2 (w9 (AU7 0 1 (A0 rfl) rfl rfl) (AG6 Tryz.call218 (fun w (_ : True) => AS8 w _ _ (by first | assumption | omega) (by assumption)))) T1))) ?_
 refine B3 rfl ?_
 refine A4 ?_
 refine B8 ?_
 exact E4 rfl (B7 rfl (by first | rfl | (refine congrArg AV.bool ?_; simp_all; done)))
theorem Aj5 (h k : THeld) (h1 : h.Writes.length ≤ 4611686018427387903) (k1 : k.Writes.length ≤ 4611686018427387903) (ha : adj wLess h.Writes = true) (ka : adj wLess k.Writes = true) : FSpec Tryz.prog 140 [AV.agg h.cs, AV.agg k.cs] (AV.bool (clash h k)) := by
 refine D3 Tryz.func140 rfl Tryz.ntmps140 rfl ?_
 refine A3 (A2 ?_)
 refine I8 rfl rfl rfl rfl (A0 rfl) ?_
 intro b2
 refine I8 rfl rfl rfl rfl (A0 rfl) ?_
 intro b3
 refine A1 rfl (A9 rfl E3) ?_
 refine A4 (A3 (A2 ?_))
 refine A1 rfl (B2 4 rfl D8 rfl I7 (A0 rfl) rfl) ?_
 refine A1 rfl (B1 1 rfl (A0 rfl) rfl J7 rfl) ?_
 refine A1 rfl (B2 3 rfl D8 rfl K1 (A0 rfl) rfl) ?_
 refine A1 rfl (B1 0 rfl (A0 rfl) rfl L6 rfl) ?_
 refine A1 rfl (B2 4 rfl D8 rfl I7 (A0 rfl) rfl) ?_
 refine A1 rfl (B1 0 rfl (A0 rfl) rfl J7 rfl) ?_
 refine A1 rfl (E1 rfl Tryz.call187 rfl (AD0 _ _ _ (by first | assumption | omega) (by assumption)) (A8 (A0 rfl) (A8 (A0 rfl) (A8 (A0 rfl) C7)))) ?_
 refine A5 rfl ?_
 refine H3 rfl (fun hc => B2 4 rfl D8 rfl I7 (A0 rfl) rfl) ?_
 refine H3 rfl (fun hc => B1 0 rfl (A7 rfl hc) rfl J7 rfl) ?_
 refine H3 rfl (fun hc => B2 3 rfl D8 rfl K1 (A0 rfl) rfl) ?_
 refine H3 rfl (fun hc => B1 1 rfl (A7 rfl hc) rfl L6 rfl) ?_
 refine H3 rfl (fun hc => B2 4 rfl D8 rfl I7 (A0 rfl) rfl) ?_
 refine H3 rfl (fun hc => B1 1 rfl (A7 rfl hc) rfl J7 rfl) ?_
 refine H3 rfl (fun hc => E1 rfl Tryz.call187 rfl (AD0 _ _ _ (by first | assumption | omega) (by assumption)) (A8 (A7 rfl hc) (A8 (A7 rfl hc) (A8 (A7 rfl hc) C7)))) ?_
 refine A1 rfl (O1 rfl (A0 rfl) (F3 rfl)) ?_
 refine B3 rfl ?_
 refine A4 ?_
 refine B8 ?_
 exact E4 rfl (B7 rfl (by first | rfl | (refine congrArg AV.bool ?_; simp_all; done)))
theorem rec_spec (h : THeld) : FSpec Tryz.prog 137 [AV.agg h.cs] (AV.agg (hRec h).cs) := by
 refine D3 Tryz.func137 rfl Tryz.ntmps137 rfl ?_
 refine A3 (A2 ?_)
 refine I8 rfl rfl rfl rfl (A0 rfl) ?_
 intro b1
 refine I1 rfl rfl rfl rfl Tryz.zeroValue104 rfl ?_
 intro b2
 refine A4 (A3 (A2 ?_))
 refine A1 rfl (B2 0 rfl D8 rfl B9 (A0 rfl) rfl) ?_
 refine A1 rfl (B1 1 rfl (A0 rfl) rfl D2 rfl) ?_
 refine A1 rfl (B2 1 rfl D8 rfl B9 (A0 rfl) rfl) ?_
 refine A1 rfl (B1 1 rfl (A0 rfl) rfl D2 rfl) ?_
 refine A1 rfl (B2 2 rfl D8 rfl B9 (A0 rfl) rfl) ?_
 refine A1 rfl (B1 1 rfl (A0 rfl) rfl D2 rfl) ?_
 refine A1 rfl (B2 3 rfl D8 rfl K1 (A0 rfl) rfl) ?_
 refine A1 rfl (B1 1 rfl (A0 rfl) rfl L6 rfl) ?_
 refine A1 rfl (B2 4 rfl D8 rfl I7 (A0 rfl) rfl) ?_
 refine A1 rfl (B1 1 rfl (A0 rfl) rfl J7 rfl) ?_
 refine A1 rfl (u4 (places := #[(0, 1), (1, 1), (2, 1), (3, 1), (4, 1), (5, 1), (6, 1)]) rfl D6 Tryz.zeroValue104 (fun w => by kernel_rfl) rfl (N3 B4 (P9 _ _) (N3 (A0 rfl) (P9 _ _) (N3 (A0 rfl) (P9 _ _) (N3 (A0 rfl) (P9 _ _) (N3 (A0 rfl) (Z0 _ _) (N3 (A0 rfl) (Z0 _ _) W7)))))) rfl) ?_
 refine H9 0 rfl rfl rfl (A0 rfl) (A0 rfl) (J4 _) rfl Tryz.sizeOf104 rfl ?_
 refine A4 ?_
 refine B8 ?_
 exact E4 rfl (V2 (ys := _) 0 rfl rfl Tryz.isAgg104 Tryz.sizeOf104 rfl)
theorem AZ1 {l : List TCell} {h : List THeld} (a b : Nat) (hl : sizeL TCell.size l ≤ 1048576) (hh : sizeL THeld.size h ≤ 1048576) : (cKeys (l.take a) ++ wKeys (hWs (h.take b))).length ≤ 2097152 := by
  have h1 := L1 (f := TCell.size) (l := l)
  have h2 := Ag4 (l := h.take b)
  have h3 := AS7 (f := THeld.size) (l := h) b
  unfold cKeys wKeys
  simp only [I6, A6, F4]
  omega
theorem Ao6 (s : TState) (held : List THeld) (hg : goodCells s.Cells = true) (hs : s.size ≤ 1048576) (hh : sizeL THeld.size held ≤ 1048576) : FSpec Tryz.prog 143 [AV.agg s.cs, AV.list 5 (held.map THeld.cs)] (AV.bool (decide (held.length ≤ 12) && room s.Cells (hWs held))) := by
 obtain ⟨hs1, hs2, hs3, hs4, hs5⟩ := Z4 hs
 have hca := (Q0 hg).2.1
 have hhl := L1 (f := THeld.size) (l := held)
 obtain ⟨p, hp⟩ : ∃ p : TWrite → Bool, p = fun w => !fullC s.Cells w.Key := ⟨_, rfl⟩
 refine D3 Tryz.func143 rfl Tryz.ntmps143 rfl ?_
 refine A3 (A2 ?_)
 refine I8 rfl rfl rfl rfl (A0 rfl) ?_
 intro b2
 refine A1 rfl (A9 rfl E3) ?_
 refine A4 (A3 (A2 ?_))
 refine W9 rfl rfl rfl rfl D5 C6 ?_
 intro v14
 refine B3 rfl ?_
 refine A4 (A3 (A3 (A2 ?_)))
 refine A1 rfl (B2 1 rfl E2 rfl K5 (A0 rfl) rfl) ?_
 refine A1 rfl (B1 1 rfl (A0 rfl) rfl N1 rfl) ?_
 refine A1 rfl (E9 rfl F0 (A0 rfl)) ?_
 refine A1 rfl (C2 rfl B4) ?_
 refine A4 (C4 ?_)
 refine Y8 [(1, _), (2, _), (4, _), (16, _), (17, _)] _ (fun (i : Nat) (v : Value) (ks : List Str) => i ≤ s.Cells.length ∧ ks = cKeys (s.Cells.take i)) (fun (i : Nat) (v : Value) (ks : List Str) => [.arr v 9 1 (ks.map fun k => [AV.str k])]) (fun (i : Nat) (v : Value) (ks : List Str) => [(5, AV.is v), (18, AV.int i)]) (fun (i : Nat) (v : Value) (ks : List Str) => s.Cells.length - i) (0) (v14) ([]) ?_ (K7 (by rfl) ⟨rfl, rfl, rfl, rfl, rfl, rfl, rfl, trivial⟩) ?_
 ·exact ⟨Nat.zero_le _, rfl⟩
 intro i v ks hinv
 refine A3 (A2 ?_)
 refine A1 rfl (G0 rfl (A0 rfl) (A0 rfl)) ?_
 refine A4 (A3 ?_)
 refine C0 (A0 rfl) ?_ ?_
 ·intro h19
  have k19 := of_decide_eq_true h19; try simp only [A6] at k19
  have hlt : i < s.Cells.length := by omega
  obtain ⟨c, hx⟩ := get_some hlt
  have hkl : ks.length ≤ 1048576 := by rw [hinv.2]; unfold cKeys; rw [A6, F4]; omega
  refine C1 (A3 (C4 (A3 (A2 ?_))))
  refine A1 rfl (I9 rfl F0 E8 (A0 rfl) (A0 rfl) hx (by first | omega | (simp only [D4, B0, szR] at *; omega))) ?_
  refine A1 rfl (H8 rfl (A0 rfl) L9 E8) ?_
  refine I1 rfl rfl rfl rfl Tryz.zeroValue125 rfl ?_
  intro b7
  refine H9 0 rfl rfl rfl (A0 rfl) (A0 rfl) (J4 _) rfl E8 rfl ?_
  refine A4 (A2 ?_)
  refine A5 rfl ?_
  refine A1 rfl (B2 0 rfl F2 rfl C6 (A0 rfl) rfl) ?_
  refine A1 rfl (B1 0 rfl (A0 rfl) rfl E5 rfl) ?_
  refine A1 rfl (X8 rfl D5 C6 Tryz.zeroValue9 rfl rfl rfl rfl (N3 (A0 rfl) (Q7 _) W7) rfl rfl) ?_
  refine U8 (by' := 16) 1 rfl rfl rfl rfl D5 Tryz.type9 rfl rfl rfl rfl rfl rfl (A0 rfl) (A0 rfl) rfl (by first | omega | (simp only [D4, B0, szR] at *; omega)) ?_
  intro v26_1
  refine B3 rfl ?_
  refine A4 (A2 ?_)
  refine A1 rfl (F1 rfl (A0 rfl) B4 (by first | omega | (simp only [D4, B0, szR] at *; omega))) ?_
  refine A5 rfl ?_
  refine A4 ?_
  refine X7 i v ks (i + 1) (v26_1) (ks ++ [c.Key]) ?_ ?_ (S5 1 (by (rw [List.map_append]; rfl)) ⟨rfl, rfl, rfl, rfl, rfl, rfl, rfl, trivial⟩)
  ·exact ⟨by omega, by rw [hinv.2]; unfold cKeys; rw [List.take_add_one, hx, List.map_append]; rfl⟩
  omega
 intro h19
 have k19 := of_decide_eq_false h19; try simp only [A6] at k19
 have hge : s.Cells.length ≤ i := by omega
 have hks : ks = cKeys s.Cells := by rw [hinv.2, List.take_of_length_le hge]
 refine F5 ?_
 refine A3 (A3 (A2 ?_))
 refine A5 rfl ?_
 refine A1 rfl (E9 rfl F6 (A0 rfl)) ?_
 refine A1 rfl (C2 rfl B4) ?_
 refine A4 (C4 ?_)
 refine Y8 [(1, _), (2, _), (28, _), (29, _)] _ (fun (q : Nat) (v1 : Value) (k1 : List Str) => q ≤ held.length ∧ k1 = cKeys s.Cells ++ wKeys (hWs (held.take q)) ∧ (hWs held).all p = (hWs (held.drop q)).all p) (fun (q : Nat) (v1 : Value) (k1 : List Str) => [.arr v1 9 1 (k1.map fun k => [AV.str k])]) (fun (q : Nat) (v1 : Value) (k1 : List Str) => [(5, AV.is v1), (30, AV.int q)]) (fun (q : Nat) (v1 : Value) (k1 : List Str) => held.length - q) (0) (v) (ks) ?_ (K7 (by rfl) ⟨rfl, rfl, rfl, rfl, rfl, rfl, trivial⟩) ?_
 ·exact ⟨Nat.zero_le _, by rw [hks, List.take_zero]; simp [hWs, wKeys], rfl⟩
 intro q v1 k1 hinv
 refine A3 (A2 ?_)
 refine A1 rfl (G0 rfl (A0 rfl) (A0 rfl)) ?_
 refine A4 (A3 ?_)
 refine C0 (A0 rfl) ?_ ?_
 ·intro h31
  have k31 := of_decide_eq_true h31; try simp only [A6] at k31
  have hlt : q < held.length := by omega
  obtain ⟨h, hh0⟩ := get_some hlt
  obtain ⟨g1, g2, g3, g4, g5⟩ := m8 hh hh0
  have hinv1 := hinv
  refine C1 (A3 (C4 (A3 (A2 ?_))))
  refine A1 rfl (I9 rfl F6 E6 (A0 rfl) (A0 rfl) hh0 (by first | omega | (simp only [D4, B0, szR] at *; omega))) ?_
  refine A1 rfl (H8 rfl (A0 rfl) K4 E6) ?_
  refine I1 rfl rfl rfl rfl Tryz.zeroValue141 rfl ?_
  intro b9
  refine H9 0 rfl rfl rfl (A0 rfl) (A0 rfl) (J4 _) rfl E6 rfl ?_
  refine A4 (A3 (A2 ?_))
  refine A1 rfl (B2 4 rfl D8 rfl I7 (A0 rfl) rfl) ?_
  refine A1 rfl (B1 0 rfl (A0 rfl) rfl J7 rfl) ?_
  refine A1 rfl (E9 rfl E7 (A0 rfl)) ?_
  refine A1 rfl (C2 rfl B4) ?_
  refine A4 (C4 ?_)
  refine AWP.le (Q3 [1] rfl) ?_
  refine Y8 [(1, _), (2, _), (9, _), (28, _), (29, _), (30, _), (31, _), (32, _), (33, _), (34, _), (35, _), (36, _)] _ (fun (r : Nat) (v2 : Value) (k2 : List Str) => r ≤ h.Writes.length ∧ k2 = k1 ++ wKeys (h.Writes.take r) ∧ h.Writes.all p = (h.Writes.drop r).all p) (fun (r : Nat) (v2 : Value) (k2 : List Str) => [.arr v2 9 1 (k2.map fun k => [AV.str k])]) (fun (r : Nat) (v2 : Value) (k2 : List Str) => [(5, AV.is v2), (37, AV.int r)]) (fun (r : Nat) (v2 : Value) (k2 : List Str) => h.Writes.length - r) (0) (v1) (k1) ?_ (K7 (by rfl) ⟨rfl, rfl, rfl, rfl, rfl, rfl, rfl, rfl, rfl, rfl, rfl, rfl, rfl, rfl, trivial⟩) ?_
  ·exact ⟨Nat.zero_le _, by simp [wKeys], rfl⟩
  intro r v2 k2 hinv
  refine A3 (A2 ?_)
  refine A1 rfl (G0 rfl (A0 rfl) (A0 rfl)) ?_
  refine A4 (A3 ?_)
  refine C0 (A0 rfl) ?_ ?_
  ·intro h38
   have k38 := of_decide_eq_true h38; try simp only [A6] at k38
   have hlt2 : r < h.Writes.length := by omega
   obtain ⟨w, hw⟩ := get_some hlt2
   obtain ⟨c, hc0⟩ := u6 s.Cells (cPos s.Cells w.Key)
   have hc1 : cHas s.Cells w.Key = true → s.Cells[cPos s.Cells w.Key]? = some c := fun e => by (obtain ⟨y, hy, _⟩ := y5.1 e; exact hc0 (List.getElem?_eq_some_iff.1 hy).1)
   have hfu := Ao5 hca hc1
   have hk2l : k2.length ≤ 3145728 := by rw [hinv.2.1, hinv1.2.1]; have := AZ1 s.Cells.length q hs1 hh; rw [List.take_length] at this; unfold wKeys at this ⊢; simp only [I6, A6, F4] at this ⊢; omega
   refine C1 (A3 (C4 (A3 (A2 ?_))))
   refine A1 rfl (I9 rfl E7 G1 (A0 rfl) (A0 rfl) hw (by first | omega | (simp only [D4, B0, szR] at *; omega))) ?_
   refine A1 rfl (H8 rfl (A0 rfl) P1 G1) ?_
   refine I1 rfl rfl rfl rfl Tryz.zeroValue101 rfl ?_
   intro b11
   refine H9 0 rfl rfl rfl (A0 rfl) (A0 rfl) (J4 _) rfl G1 rfl ?_
   refine A4 (A3 (A3 (A2 ?_)))
   refine A1 rfl (B2 1 rfl E2 rfl K5 (A0 rfl) rfl) ?_
   refine A1 rfl (B1 3 rfl (A0 rfl) rfl N1 rfl) ?_
   refine A1 rfl (B2 0 rfl G2 rfl C6 (A0 rfl) rfl) ?_
   refine A1 rfl (B1 0 rfl (A0 rfl) rfl E5 rfl) ?_
   refine A1 rfl (E1 rfl Tryz.call122 rfl (AA7 s.Cells w.Key (by omega)) (A8 (A0 rfl) (A8 (A0 rfl) C7))) ?_
   refine A5 rfl ?_
   refine A1 rfl (M2 rfl (A0 rfl) rfl) ?_
   refine A1 rfl (M2 rfl (A0 rfl) rfl) ?_
   refine B3 rfl ?_
   refine B3 rfl ?_
   refine A4 (A3 (A2 ?_))
   refine A5 rfl ?_
   refine A5 rfl ?_
   refine D1 rfl (fun hc => B2 1 rfl E2 rfl K5 (A0 rfl) rfl) ?_
   refine D1 rfl (fun hc => B1 3 rfl (A7 rfl hc) rfl N1 rfl) ?_
   refine D1 rfl (fun hc => C2 rfl (A0 rfl)) ?_
   refine D1 rfl (fun hc => O7 rfl F0 E8 (A7 rfl hc) (A7 rfl hc) (by have := (List.getElem?_eq_some_iff.1 (hc1 hc)).1; omega) (by rw [Int.toNat_natCast, List.getElem?_map, hc1 hc]; rfl)) ?_
   refine D1 rfl (fun hc => Q2 rfl F2 rfl K2 (A7 rfl hc) rfl) ?_
   refine D1 rfl (fun hc => J5 rfl (A7 rfl hc) M0 rfl) ?_
   refine D1 rfl (fun hc => E9 rfl G5 (A7 rfl hc)) ?_
   refine D1 rfl (fun hc => X1 rfl (A7 rfl hc) B4) ?_
   refine A1 rfl (H5 rfl (A0 rfl) (F3 rfl)) ?_
   refine A4 ?_
   refine C0 (A0 rfl) ?_ ?_
   ·intro h59
    have hpw : p w = false := by rw [hp]; simp only [Bool.not_eq_false']; rw [hfu]; simpa using h59
    have hro : room s.Cells (hWs held) = false := by (unfold room; rw [show ((hWs held).all fun w => !fullC s.Cells w.Key) = false from by rw [← hp, hinv1.2.2, drop_some hh0, p4, List.all_append, hinv.2.2, drop_some hw, List.all_cons, hpw]; rfl]; rfl)
    refine A3 (A2 ?_)
    refine A1 rfl (A9 rfl E3) ?_
    refine A4 ?_
    refine B8 ?_
    exact E4 rfl (B7 rfl (by first | exact congrArg AV.bool (by rw [hro]; simp) | exact congrArg AV.bool (by rw [hre, Bool.eq_iff_iff]; simp only [Bool.and_eq_true, decide_eq_true_eq, decide_eq_false_iff_not, A6, Bool.false_eq_true, and_false, false_and, false_iff] at *; omega)))
   intro h59
   have hpw : p w = true := by rw [hp]; simp only [Bool.not_eq_true']; rw [hfu]; simpa using h59
   refine C1 (A2 ?_)
   refine A5 rfl ?_
   refine A1 rfl (B2 0 rfl G2 rfl C6 (A0 rfl) rfl) ?_
   refine A1 rfl (B1 0 rfl (A0 rfl) rfl E5 rfl) ?_
   refine A1 rfl (X8 rfl D5 C6 Tryz.zeroValue9 rfl rfl rfl rfl (N3 (A0 rfl) (Q7 _) W7) rfl rfl) ?_
   refine U8 (by' := 16) 1 rfl rfl rfl rfl D5 Tryz.type9 rfl rfl rfl rfl rfl rfl (A0 rfl) (A0 rfl) rfl (by first | omega | (simp only [D4, B0, szR] at *; omega)) ?_
   intro v64_2
   refine B3 rfl ?_
   refine A4 (A2 ?_)
   refine A1 rfl (F1 rfl (A0 rfl) B4 (by first | omega | (simp only [D4, B0, szR] at *; omega))) ?_
   refine A5 rfl ?_
   refine A4 ?_
   refine X7 r v2 k2 (r + 1) (v64_2) (k2 ++ [w.Key]) ?_ ?_ (Le.trans (Q3 [0, 0] rfl) (S5 1 (by (rw [List.map_append]; rfl)) ⟨rfl, rfl, rfl, rfl, rfl, rfl, rfl, rfl, rfl, rfl, rfl, rfl, rfl, rfl, trivial⟩))
   ·exact ⟨by omega, by rw [hinv.2.1]; unfold wKeys; rw [List.take_add_one, hw, List.map_append, List.append_assoc]; rfl, by rw [hinv.2.2, drop_some hw, List.all_cons, hpw]; rfl⟩
   omega
  intro h38
  have k38 := of_decide_eq_false h38; try simp only [A6] at k38
  have hge2 : h.Writes.length ≤ r := by omega
  have hk2 : k2 = k1 ++ wKeys h.Writes := by rw [hinv.2.1, List.take_of_length_le hge2]
  have hal : h.Writes.all p = true := by rw [hinv.2.2, List.drop_eq_nil_of_le hge2]; rfl
  refine F5 ?_
  refine A2 ?_
  refine A1 rfl (F1 rfl (A0 rfl) B4 (by first | omega | (simp only [D4, B0, szR] at *; omega))) ?_
  refine A5 rfl ?_
  refine A4 ?_
  refine X7 q v1 k1 (q + 1) (v2) (k2) ?_ ?_ (Le.trans (Q3 [1, 0] rfl) (S5 1 (by rfl) ⟨rfl, rfl, rfl, rfl, rfl, rfl, trivial⟩))
  ·exact ⟨by omega, by rw [hk2, hinv1.2.1, AY8 hh0]; simp [wKeys], by rw [hinv1.2.2, drop_some hh0, p4, List.all_append, hal]; rfl⟩
  omega
 intro h31
 have k31 := of_decide_eq_false h31; try simp only [A6] at k31
 have hge : held.length ≤ q := by omega
 have hk9 : k1 = cKeys s.Cells ++ wKeys (hWs held) := by rw [hinv.2.1, List.take_of_length_le hge]
 have hal9 : (hWs held).all p = true := by rw [hinv.2.2, List.drop_eq_nil_of_le hge]; rfl
 have hln := AZ1 s.Cells.length held.length hs1 hh
 rw [List.take_length, List.take_length, ← hk9] at hln
 have hre : room s.Cells (hWs held) = decide ((cmpL (sortS k1)).length ≤ 24) := by (unfold room roomKs keysI; rw [← hp, hal9, ← hk9]; rfl)
 refine F5 ?_
 refine A3 (A2 ?_)
 refine A5 rfl ?_
 refine Q8 [0] rfl rfl rfl rfl Tryz.call189 rfl (AY7 _ k1 (by omega)) (A8 (A0 rfl) C7) rfl ?_
 intro x68 ok68
 refine A4 (A3 (A2 ?_))
 refine A5 rfl ?_
 refine A1 rfl (E9 rfl F6 (A0 rfl)) ?_
 refine A1 rfl (R7 rfl (A0 rfl) B4) ?_
 refine A5 rfl ?_
 refine D1 rfl (fun hc => C2 rfl (A0 rfl)) ?_
 refine AH4 rfl rfl (S4 rfl rfl rfl) ?_ ?_
 ·intro gh74
  refine Q8 [0] rfl rfl rfl rfl Tryz.call190 rfl (AN8 _ (sortS k1) (by rw [AQ2]; omega)) (A8 (A7 rfl gh74) C7) rfl ?_
  intro x74 ok74
  refine D1 rfl (fun hc => V3 0 rfl D5 (A0 rfl) rfl) ?_
  refine D1 rfl (fun hc => R7 rfl (A7 rfl hc) B4) ?_
  refine A1 rfl (H5 rfl (A0 rfl) (F3 rfl)) ?_
  refine B3 rfl ?_
  refine A4 ?_
  refine B8 ?_
  exact E4 rfl (B7 rfl (by first | exact congrArg AV.bool (by rw [hro]; simp) | exact congrArg AV.bool (by rw [hre, Bool.eq_iff_iff]; simp only [Bool.and_eq_true, decide_eq_true_eq, decide_eq_false_iff_not, A6, Bool.false_eq_true, and_false, false_and, false_iff] at *; omega)))
 intro gh74
 refine AH4 rfl rfl (S4 rfl rfl rfl) (fun hq => by rw [gh74] at hq; cases hq) (fun _ => ?_)
 refine AH4 rfl rfl (S4 rfl rfl rfl) (fun hq => by rw [gh74] at hq; cases hq) (fun _ => ?_)
 refine A1 rfl (H5 rfl (A0 rfl) (evif_no (x := AV.bool false) gh74)) ?_
 refine B3 rfl ?_
 refine A4 ?_
 refine B8 ?_
 exact E4 rfl (B7 rfl (by first | exact congrArg AV.bool (by rw [hro]; simp) | exact congrArg AV.bool (by rw [hre, Bool.eq_iff_iff]; simp only [Bool.and_eq_true, decide_eq_true_eq, decide_eq_false_iff_not, A6, Bool.false_eq_true, and_false, false_and, false_iff] at *; omega)))
theorem AS9 (h k : THeld) (h1 : h.Writes.length ≤ 4611686018427387903) (ha : adj wLess h.Writes = true) (hk : adj wLess k.Writes = true ∧ k.Writes.length ≤ 4611686018427387903) : FSpec Tryz.prog 139 [AV.agg k.cs, AV.eptr h.cs] (AV.bool (clash h k)) := by
 obtain ⟨ka, k1⟩ := hk
 refine D3 Tryz.func139 rfl Tryz.ntmps139 rfl ?_
 refine A3 (A2 ?_)
 refine I8 rfl rfl rfl rfl (A0 rfl) ?_
 intro b2
 refine A1 rfl (A9 rfl E3) ?_
 refine A4 (A3 (A2 ?_))
 refine A1 rfl (H8 rfl (A0 rfl) K4 E6) ?_
 refine A1 rfl (K8 0 rfl (A0 rfl) rfl K4 E6 rfl) ?_
 refine A1 rfl (E1 rfl Tryz.call140 rfl (Aj5 _ _ (by first | assumption | omega) (by first | assumption | omega) (by assumption) (by assumption)) (A8 (A0 rfl) (A8 (A0 rfl) C7))) ?_
 refine B3 rfl ?_
 refine A4 ?_
 refine B8 ?_
 exact E4 rfl (B7 rfl (by first | rfl | (refine congrArg AV.bool ?_; simp_all; done)))
theorem AT0 (h : THeld) (s : TState) (w : TWrite) (ho : CellsOk s.Cells) (hs : sizeL TCell.size s.Cells ≤ 1048576) : FSpec Tryz.prog 142 [AV.agg w.cs, AV.eptr h.cs, AV.eptr s.cs] (AV.bool (decide (h.Time ≤ lastTime s.Cells w.Key))) := by
 refine D3 Tryz.func142 rfl Tryz.ntmps142 rfl ?_
 refine A3 (A2 ?_)
 refine I8 rfl rfl rfl rfl (A0 rfl) ?_
 intro b3
 refine A1 rfl (A9 rfl E3) ?_
 refine A4 (A3 ?_)
 refine H7 (by kernel_rfl) (by kernel_rfl) rfl ?_
 refine B5 rfl rfl (Q2 rfl D8 rfl B9 (A0 rfl) rfl) ?_
 refine B5 rfl rfl (J5 rfl (A0 rfl) D2 rfl) ?_
 refine B5 rfl rfl (Q2 rfl E2 rfl K5 (A0 rfl) rfl) ?_
 refine B5 rfl rfl (J5 rfl (A0 rfl) N1 rfl) ?_
 refine B5 rfl rfl (B2 0 rfl G2 rfl C6 (A0 rfl) rfl) ?_
 refine B5 rfl rfl (B1 0 rfl (A0 rfl) rfl E5 rfl) ?_
 refine B5 rfl rfl (E1 rfl Tryz.call92 rfl (AA8 _ _ (by first | assumption | exact U1 (by assumption)) (by first | assumption | omega)) (A8 (A0 rfl) (A8 (A0 rfl) C7))) ?_
 refine B5 rfl rfl (R7 rfl (A0 rfl) (A0 rfl)) ?_
 refine B5 rfl rfl (A9 rfl (A0 rfl)) ?_
 refine O5 ?_
 refine B8 ?_
 exact E4 rfl (B7 rfl (by first | rfl | (refine congrArg AV.bool ?_; simp_all; done)))
theorem AZ2 (s : TState) (hg : goodCells s.Cells = true) (hs : s.size ≤ 1048576) : FSpec Tryz.prog 91 [AV.agg s.cs] (AV.bool (areHeld s)) := by
 obtain ⟨hs1, hs2, hs3, hs4, hs5⟩ := Z4 hs
 have hco := U1 hg
 refine D3 Tryz.func91 rfl Tryz.ntmps91 rfl ?_
 refine A3 (A2 ?_)
 refine I8 rfl rfl rfl rfl (A0 rfl) ?_
 intro b1
 refine A1 rfl (A9 rfl E3) ?_
 refine A4 (A3 (A3 (A2 ?_)))
 refine A1 rfl (B2 2 rfl E2 rfl M1 (A0 rfl) rfl) ?_
 refine A1 rfl (B1 0 rfl (A0 rfl) rfl Q1 rfl) ?_
 refine A1 rfl (E9 rfl F6 (A0 rfl)) ?_
 refine A1 rfl (C2 rfl B4) ?_
 refine A4 (C4 ?_)
 refine H2 [(1, _), (6, _), (7, _)] _ (fun (i : Nat) => i ≤ s.Held.length ∧ ∀ j, j < i → heldAt s j = true) (fun (i : Nat) => []) (fun (i : Nat) => [(8, AV.int i)]) (fun (i : Nat) => s.Held.length - i) (0) ?_ (H1 ⟨rfl, rfl, rfl, rfl, trivial⟩) ?_
 ·exact ⟨Nat.zero_le _, fun j hj => by omega⟩
 intro i hinv
 refine A3 (A2 ?_)
 refine A1 rfl (G0 rfl (A0 rfl) (A0 rfl)) ?_
 refine A4 (A3 ?_)
 refine C0 (A0 rfl) ?_ ?_
 ·intro h9
  have k9 := of_decide_eq_true h9; try simp only [A6] at k9
  have hlt : i < s.Held.length := by omega
  obtain ⟨h, hx⟩ := get_some hlt
  obtain ⟨y, hy⟩ := get_some (show i - 1 < s.Held.length by omega)
  obtain ⟨g1, g2, g3, g4, g5⟩ := m8 hs2 hx
  refine C1 (A3 (C4 (A3 (A2 ?_))))
  refine A5 rfl ?_
  refine A1 rfl (I9 rfl F6 E6 (A0 rfl) (A0 rfl) hx (by first | omega | (simp only [D4, B0, szR] at *; omega))) ?_
  refine A1 rfl (H8 rfl (A0 rfl) K4 E6) ?_
  refine I1 rfl rfl rfl rfl Tryz.zeroValue141 rfl ?_
  intro b4
  refine B3 rfl ?_
  refine H9 0 rfl rfl rfl (A0 rfl) (A0 rfl) (J4 _) rfl E6 rfl ?_
  refine A4 (A3 (A3 ?_))
  refine H7 (by kernel_rfl) (by kernel_rfl) rfl ?_
  refine B5 rfl rfl (K8 0 rfl (A0 rfl) rfl K4 E6 rfl) ?_
  refine B5 rfl rfl (E1 rfl Tryz.call137 rfl (rec_spec _) (A8 (A0 rfl) C7)) ?_
  refine B5 rfl rfl (E1 rfl Tryz.call136 rfl (AY5 _ (by first | assumption | omega)) (A8 (A0 rfl) C7)) ?_
  refine B5 rfl rfl (J3 rfl (A0 rfl)) ?_
  refine B5 rfl rfl (C2 rfl (A0 rfl)) ?_
  refine D9 rfl (G6 rfl rfl rfl) (fun hc => B2 1 rfl D8 rfl B9 (A0 rfl) rfl) ?_
  refine D9 rfl (G6 rfl rfl rfl) (fun hc => B1 0 rfl (A7 rfl hc) rfl D2 rfl) ?_
  refine D9 rfl (G6 rfl rfl rfl) (fun hc => B2 0 rfl E2 rfl B9 (A0 rfl) rfl) ?_
  refine D9 rfl (G6 rfl rfl rfl) (fun hc => B1 1 rfl (A7 rfl hc) rfl D2 rfl) ?_
  refine D9 rfl (G6 rfl rfl rfl) (fun hc => R4 rfl (A7 rfl hc) (A7 rfl hc)) ?_
  refine B5 rfl rfl (O1 rfl (A0 rfl) (F3 rfl)) ?_
  refine B5 rfl rfl (C2 rfl (A0 rfl)) ?_
  refine D9 rfl (G6 rfl rfl rfl) (fun hc => C2 rfl (A0 rfl)) ?_
  refine D9 rfl (G6 rfl rfl rfl) (fun hc => R4 rfl (A7 rfl hc) B4) ?_
  refine D9 rfl (G6 rfl rfl rfl) (fun hc => C2 rfl (A7 rfl hc)) ?_
  refine D9 rfl (D7 rfl rfl rfl) (fun hc => B2 0 rfl D8 rfl B9 (A0 rfl) rfl) ?_
  refine D9 rfl (D7 rfl rfl rfl) (fun hc => B1 0 rfl (A7 rfl hc) rfl D2 rfl) ?_
  refine D9 rfl (D7 rfl rfl rfl) (fun hc => B2 2 rfl E2 rfl M1 (A0 rfl) rfl) ?_
  refine D9 rfl (D7 rfl rfl rfl) (fun hc => B1 1 rfl (A7 rfl hc) rfl Q1 rfl) ?_
  refine D9 rfl (D7 rfl rfl rfl) (fun hc => C2 rfl (A0 rfl)) ?_
  refine D9 rfl (D7 rfl rfl rfl) (fun hc => P4 rfl (A7 rfl hc) B4 (by first | omega | ((try simp only [D4, B0, szR] at *); omega) | (have hc2 := hc; simp only [O6, beq_iff_eq, bne_iff_ne, A6, F4] at hc2; omega))) ?_
  refine D9 rfl (D7 rfl rfl rfl) (fun hc => I9 rfl F6 E6 (A7 rfl hc) (A7 rfl hc) hy (by first | omega | ((try simp only [D4, B0, szR] at *); omega) | (have hc2 := hc; simp only [O6, beq_iff_eq, bne_iff_ne, A6, F4] at hc2; omega))) ?_
  refine D9 rfl (D7 rfl rfl rfl) (fun hc => Q2 rfl D8 rfl B9 (A7 rfl hc) rfl) ?_
  refine D9 rfl (D7 rfl rfl rfl) (fun hc => J5 rfl (A7 rfl hc) D2 rfl) ?_
  refine D9 rfl (D7 rfl rfl rfl) (fun hc => R7 rfl (A7 rfl hc) (A7 rfl hc)) ?_
  refine D9 rfl (G6 rfl rfl rfl) (fun hc => H5 rfl (A7 rfl hc) (N2 rfl hc)) ?_
  refine B5 rfl rfl (O1 rfl (A0 rfl) (F3 rfl)) ?_
  refine O5 ?_
  refine C0 (A0 rfl) ?_ ?_
  ·intro h39
   have hfin : areHeld s = false := by (unfold areHeld; rw [T8 hlt (by rw [m9 hx hy, h39]; rfl)]; rfl)
   refine A3 (A2 ?_)
   refine A1 rfl (A9 rfl E3) ?_
   refine A4 ?_
   refine B8 ?_
   exact E4 rfl (B7 rfl (by first | exact congrArg AV.bool hfin.symm | exact congrArg AV.bool (by unfold areHeld; rw [hall]; rfl)))
  intro h39
  have hgr : goodRec (hRec h) = true := by (simp only [Bool.or_eq_false_iff, Bool.not_eq_false'] at h39; exact h39.1.1)
  have hwa := AY9 hgr
  have hwl : h.Writes.length ≤ 4611686018427387903 := by omega
  have hpre : ∀ g ∈ s.Held.take i, adj wLess g.Writes = true ∧ g.Writes.length ≤ 4611686018427387903 := fun g hm => by (obtain ⟨j, hj⟩ := List.getElem?_of_mem hm; have hjl := (List.getElem?_eq_some_iff.1 hj).1; rw [F4] at hjl; rw [List.getElem?_take_of_lt (by omega)] at hj; have k1 := m8 hs2 hj; exact ⟨AY9 (AF9 hj (hinv.2 j (by omega))).1, by omega⟩)
  refine C1 (A3 (A3 (A2 ?_)))
  refine A1 rfl (B2 2 rfl E2 rfl M1 (A0 rfl) rfl) ?_
  refine A1 rfl (B1 1 rfl (A0 rfl) rfl Q1 rfl) ?_
  refine A5 rfl ?_
  refine A1 rfl (AO9 rfl F6 E6 (A0 rfl) (A0 rfl) (by first | omega | (simp only [D4, B0, szR] at *; omega)) (by first | omega | (simp only [D4, B0, szR] at *; omega))) ?_
  refine A1 rfl (w_clo rfl rfl (A8 (A0 rfl) C7)) ?_
  refine A1 rfl (Z1 rfl Tryz.call138 rfl (u7 (s.Held.take i) (fun g => adj wLess g.Writes = true ∧ g.Writes.length ≤ 4611686018427387903) (fun g => clash h g) hpre) (C3 _) (L2 (evb (A0 rfl)) (L2 (w9 (evb_clo1 0 (A0 rfl) rfl) (AG6 Tryz.call139 (fun g hg => AS9 _ g (by first | assumption | omega) (by assumption) hg))) T1))) ?_
  refine A4 ?_
  refine C0 (A0 rfl) ?_ ?_
  ·intro h45
   have hfin : areHeld s = false := by (unfold areHeld; rw [T8 hlt (by rw [m9 hx hy, h45]; simp)]; rfl)
   refine A3 (A2 ?_)
   refine A1 rfl (A9 rfl E3) ?_
   refine A4 ?_
   refine B8 ?_
   exact E4 rfl (B7 rfl (by first | exact congrArg AV.bool hfin.symm | exact congrArg AV.bool (by unfold areHeld; rw [hall]; rfl)))
  intro h45
  refine C1 (A3 (A2 ?_))
  refine A1 rfl (B2 4 rfl D8 rfl I7 (A0 rfl) rfl) ?_
  refine A1 rfl (B1 0 rfl (A0 rfl) rfl J7 rfl) ?_
  refine A1 rfl (w_clo rfl rfl (A8 (A0 rfl) (A8 (A0 rfl) C7))) ?_
  refine A1 rfl (Z1 rfl Tryz.call141 rfl (X0 _ _ _ (by first | (intros; trivial) | assumption | (intros; first | trivial | (simp_all; done)))) (C3 _) (L2 (evb (A0 rfl)) (L2 (w9 (AU7 0 1 (A0 rfl) rfl rfl) (AG6 Tryz.call142 (fun w (_ : True) => AT0 _ _ w (by assumption) (by first | assumption | omega)))) T1))) ?_
  refine A4 ?_
  refine C0 (A0 rfl) ?_ ?_
  ·intro h49
   have hfin : areHeld s = false := by (unfold areHeld; rw [T8 hlt (by rw [m9 hx hy, h49]; simp)]; rfl)
   refine A3 (A2 ?_)
   refine A1 rfl (A9 rfl E3) ?_
   refine A4 ?_
   refine B8 ?_
   exact E4 rfl (B7 rfl (by first | exact congrArg AV.bool hfin.symm | exact congrArg AV.bool (by unfold areHeld; rw [hall]; rfl)))
  intro h49
  refine C1 (A2 ?_)
  refine A1 rfl (F1 rfl (A0 rfl) B4 (by first | omega | (simp only [D4, B0, szR] at *; omega))) ?_
  refine A5 rfl ?_
  refine A4 ?_
  refine I0 i (i + 1) ?_ ?_ (S3 1 ⟨rfl, rfl, rfl, rfl, trivial⟩)
  ·exact ⟨by omega, fun j hj => if hji : j < i then hinv.2 j hji else (by have e : j = i := (by omega); subst e; rw [m9 hx hy, h39, h45, h49]; rfl)⟩
  omega
 intro h9
 have k9 := of_decide_eq_false h9; try simp only [A6] at k9
 have hge : s.Held.length ≤ i := by omega
 have hall : allB s.Held.length (heldAt s) = true := a7.2 fun j hj => hinv.2 j (by omega)
 refine F5 ?_
 refine A3 (A2 ?_)
 refine A1 rfl (K8 0 rfl (A0 rfl) rfl O0 L3 rfl) ?_
 refine A1 rfl (B2 2 rfl E2 rfl M1 (A0 rfl) rfl) ?_
 refine A1 rfl (B1 0 rfl (A0 rfl) rfl Q1 rfl) ?_
 refine A1 rfl (E1 rfl Tryz.call143 rfl (Ao6 _ _ (by assumption) (by first | assumption | omega) (by first | assumption | omega)) (A8 (A0 rfl) (A8 (A0 rfl) C7))) ?_
 refine B3 rfl ?_
 refine A4 ?_
 refine B8 ?_
 exact E4 rfl (B7 rfl (by first | exact congrArg AV.bool hfin.symm | exact congrArg AV.bool (by unfold areHeld; rw [hall]; rfl)))
theorem AN9 (h : THeld) (n : Int) : FSpec Tryz.prog 145 [AV.agg h.cs, AV.int n] (AV.int (hCmp n h)) := by
 refine D3 Tryz.func145 rfl Tryz.ntmps145 rfl ?_
 refine A3 (A2 ?_)
 refine I8 rfl rfl rfl rfl (A0 rfl) ?_
 intro b2
 refine A1 rfl (A9 rfl B4) ?_
 refine A4 (A3 (A2 ?_))
 refine A1 rfl (B2 0 rfl D8 rfl B9 (A0 rfl) rfl) ?_
 refine A1 rfl (B1 0 rfl (A0 rfl) rfl D2 rfl) ?_
 refine A5 rfl ?_
 refine A1 rfl (E1 rfl Tryz.call104 rfl (Ab2 _ _) (A8 (A0 rfl) (A8 (A0 rfl) C7))) ?_
 refine B3 rfl ?_
 refine A4 ?_
 refine B8 ?_
 exact E4 rfl (B7 rfl (by first | rfl | (refine congrArg AV.bool ?_; simp_all; done)))
theorem AZ3 (f : Int) (c t : List (List AV)) (l : List THeld) (n : Int) (hs : l.length ≤ 1048576) : FSpec Tryz.prog 94 [AV.agg [AV.int f, AV.list 2 c, AV.list 5 (l.map THeld.cs), AV.list 3 t], AV.int n] (AV.tup [AV.int (hPos l n), AV.bool (hHas l n)]) := by
 refine D3 Tryz.func94 rfl Tryz.ntmps94 rfl ?_
 refine A3 (A2 ?_)
 refine I8 rfl rfl rfl rfl (A0 rfl) ?_
 intro b2
 refine A1 rfl (A9 rfl B4) ?_
 refine A1 rfl (A9 rfl E3) ?_
 refine A4 (A3 (A2 ?_))
 refine A1 rfl (B2 2 rfl E2 rfl M1 (A0 rfl) rfl) ?_
 refine A1 rfl (B1 0 rfl (A0 rfl) rfl Q1 rfl) ?_
 refine A5 rfl ?_
 refine A1 rfl (E1 rfl Tryz.call144 rfl (v8 _ _ _ (by first | (intros; trivial) | assumption | (intros; first | trivial | (simp_all; done))) _ (by omega)) (A8 (A0 rfl) (A8 (A0 rfl) (A8 (AL9 Tryz.call145 (fun h n (_ : True) => AN9 h n)) C7)))) ?_
 refine A1 rfl (M2 rfl (A0 rfl) rfl) ?_
 refine A1 rfl (M2 rfl (A0 rfl) rfl) ?_
 refine B3 rfl ?_
 refine B3 rfl ?_
 refine A4 ?_
 refine B8 ?_
 exact s6 rfl (by decide) (N8 (B7 rfl (by first | rfl | (refine congrArg AV.bool ?_; simp_all; done))) (N8 (B7 rfl (by first | rfl | (refine congrArg AV.bool ?_; simp_all; done))) W6))
theorem AT1 (s : TState) (n : Int) (hs : s.Held.length ≤ 1048576) : FSpec Tryz.prog 94 [AV.agg s.cs, AV.int n] (AV.tup [AV.int (hPos s.Held n), AV.bool (hHas s.Held n)]) := AZ3 _ _ _ s.Held n hs
theorem AO0 (s : TState) (hs : s.size ≤ 1048576) : FSpec Tryz.prog 50 [AV.agg s.cs] (AV.bool (goodState s)) := by
 obtain ⟨hs1, hs2, hs3, hs4, hs5⟩ := Z4 hs
 refine D3 Tryz.func50 rfl Tryz.ntmps50 rfl ?_
 refine A3 (A2 ?_)
 refine I8 rfl rfl rfl rfl (A0 rfl) ?_
 intro b1
 refine A1 rfl (A9 rfl E3) ?_
 refine A4 (A3 (A3 (A2 ?_)))
 refine A1 rfl (B2 0 rfl E2 rfl B9 (A0 rfl) rfl) ?_
 refine A1 rfl (B1 0 rfl (A0 rfl) rfl D2 rfl) ?_
 refine A1 rfl (E1 rfl Tryz.call52 rfl (t7 _) (A8 (A0 rfl) C7)) ?_
 refine A1 rfl (J3 rfl (A0 rfl)) ?_
 refine A5 rfl ?_
 refine H3 rfl (fun hc => B2 1 rfl E2 rfl K5 (A0 rfl) rfl) ?_
 refine H3 rfl (fun hc => B1 0 rfl (A7 rfl hc) rfl N1 rfl) ?_
 refine H3 rfl (fun hc => E1 rfl Tryz.call77 rfl (AN3 _ (by first | assumption | omega)) (A8 (A7 rfl hc) C7)) ?_
 refine H3 rfl (fun hc => J3 rfl (A7 rfl hc)) ?_
 refine A1 rfl (O1 rfl (A0 rfl) (F3 rfl)) ?_
 refine A5 rfl ?_
 refine H3 rfl (fun hc => K8 0 rfl (A0 rfl) rfl O0 L3 rfl) ?_
 refine H3 rfl (fun hc => E1 rfl Tryz.call91 rfl (AZ2 s (by have h9 := hc; simp at h9; exact h9.2) hs) (A8 (A7 rfl hc) C7)) ?_
 refine H3 rfl (fun hc => J3 rfl (A7 rfl hc)) ?_
 refine A1 rfl (O1 rfl (A0 rfl) (F3 rfl)) ?_
 refine A5 rfl ?_
 refine H3 rfl (fun hc => B2 3 rfl E2 rfl P7 (A0 rfl) rfl) ?_
 refine H3 rfl (fun hc => B1 0 rfl (A7 rfl hc) rfl T9 rfl) ?_
 refine H3 rfl (fun hc => E9 rfl J0 (A7 rfl hc)) ?_
 refine H3 rfl (fun hc => R4 rfl (A7 rfl hc) B4) ?_
 refine A1 rfl (O1 rfl (A0 rfl) (F3 rfl)) ?_
 refine A4 ?_
 refine C0 (A0 rfl) ?_ ?_
 ·intro h30
  have hfin : goodState s = false := by (unfold goodState; simp only [Bool.or_eq_true, Bool.not_eq_true', decide_eq_true_eq, A6] at h30; rcases h30 with ((h | h) | h) | h; (rw [h]; rfl); (rw [h]; simp); (rw [h]; simp); (rw [decide_eq_false (show ¬ s.Told.length ≤ 60 by omega)]; simp))
  refine A3 (A2 ?_)
  refine A1 rfl (A9 rfl E3) ?_
  refine A4 ?_
  refine B8 ?_
  exact E4 rfl (B7 rfl (by exact congrArg AV.bool hfin.symm))
 intro h30
 simp only [Bool.or_eq_false_iff, Bool.not_eq_false', decide_eq_false_iff_not, A6] at h30
 obtain ⟨⟨⟨q1, q2⟩, q3⟩, q4⟩ := h30
 have hco := U1 q2
 have hsrt := AZ0 q3
 have hgs : goodState s = ((s.Cells.all fun c => decide (lastTime s.Cells c.Key ≤ s.Floor)) && allB s.Told.length (toldAt s)) := by (unfold goodState; rw [q1, q2, q3, decide_eq_true (show s.Told.length ≤ 60 by omega)]; simp)
 refine C1 (A3 (A3 (A2 ?_)))
 refine A1 rfl (B2 1 rfl E2 rfl K5 (A0 rfl) rfl) ?_
 refine A1 rfl (B1 0 rfl (A0 rfl) rfl N1 rfl) ?_
 refine A1 rfl (E9 rfl F0 (A0 rfl)) ?_
 refine A1 rfl (C2 rfl B4) ?_
 refine A4 (C4 ?_)
 refine H2 [(1, _), (32, _), (33, _)] _ (fun (i : Nat) => i ≤ s.Cells.length ∧ (s.Cells.all fun c => decide (lastTime s.Cells c.Key ≤ s.Floor)) = ((s.Cells.drop i).all fun c => decide (lastTime s.Cells c.Key ≤ s.Floor))) (fun (i : Nat) => []) (fun (i : Nat) => [(34, AV.int i)]) (fun (i : Nat) => s.Cells.length - i) (0) ?_ (H1 ⟨rfl, rfl, rfl, rfl, trivial⟩) ?_
 ·exact ⟨Nat.zero_le _, rfl⟩
 intro i hinv
 refine A3 (A2 ?_)
 refine A1 rfl (G0 rfl (A0 rfl) (A0 rfl)) ?_
 refine A4 (A3 ?_)
 refine C0 (A0 rfl) ?_ ?_
 ·intro h35
  have k35 := of_decide_eq_true h35; try simp only [A6] at k35
  have hlt : i < s.Cells.length := by omega
  obtain ⟨c, hx⟩ := get_some hlt
  refine C1 (A3 (C4 (A3 (A2 ?_))))
  refine A1 rfl (I9 rfl F0 E8 (A0 rfl) (A0 rfl) hx (by first | omega | (simp only [D4, B0, szR] at *; omega))) ?_
  refine A1 rfl (H8 rfl (A0 rfl) L9 E8) ?_
  refine I1 rfl rfl rfl rfl Tryz.zeroValue125 rfl ?_
  intro b4
  refine H9 0 rfl rfl rfl (A0 rfl) (A0 rfl) (J4 _) rfl E8 rfl ?_
  refine A4 (A3 ?_)
  refine H7 (by kernel_rfl) (by kernel_rfl) rfl ?_
  refine B5 rfl rfl (B2 1 rfl E2 rfl K5 (A0 rfl) rfl) ?_
  refine B5 rfl rfl (B1 1 rfl (A0 rfl) rfl N1 rfl) ?_
  refine B5 rfl rfl (B2 0 rfl F2 rfl C6 (A0 rfl) rfl) ?_
  refine B5 rfl rfl (B1 0 rfl (A0 rfl) rfl E5 rfl) ?_
  refine B5 rfl rfl (E1 rfl Tryz.call92 rfl (AA8 _ _ (by first | assumption | exact U1 (by assumption)) (by first | assumption | omega)) (A8 (A0 rfl) (A8 (A0 rfl) C7))) ?_
  refine B5 rfl rfl (B2 0 rfl E2 rfl B9 (A0 rfl) rfl) ?_
  refine B5 rfl rfl (B1 1 rfl (A0 rfl) rfl D2 rfl) ?_
  refine B5 rfl rfl (R4 rfl (A0 rfl) (A0 rfl)) ?_
  refine O5 ?_
  refine C0 (A0 rfl) ?_ ?_
  ·intro h45
   have k45 := of_decide_eq_true h45; try simp only [A6] at k45
   have hfin : goodState s = false := by (rw [hgs, hinv.2, drop_some hx, List.all_cons, decide_eq_false (show ¬ lastTime s.Cells c.Key ≤ s.Floor by omega)]; rfl)
   refine A3 (A2 ?_)
   refine A1 rfl (A9 rfl E3) ?_
   refine A4 ?_
   refine B8 ?_
   exact E4 rfl (B7 rfl (by exact congrArg AV.bool hfin.symm))
  intro h45
  have k45 := of_decide_eq_false h45; try simp only [A6] at k45
  refine C1 (A2 ?_)
  refine A1 rfl (F1 rfl (A0 rfl) B4 (by first | omega | (simp only [D4, B0, szR] at *; omega))) ?_
  refine A5 rfl ?_
  refine A4 ?_
  refine I0 i (i + 1) ?_ ?_ (S3 1 ⟨rfl, rfl, rfl, rfl, trivial⟩)
  ·exact ⟨by omega, by rw [hinv.2, drop_some hx, List.all_cons, decide_eq_true (show lastTime s.Cells c.Key ≤ s.Floor by omega)]; rfl⟩
  omega
 intro h35
 have k35 := of_decide_eq_false h35; try simp only [A6] at k35
 have hge : s.Cells.length ≤ i := by omega
 have hgs2 : goodState s = allB s.Told.length (toldAt s) := by (rw [hgs, hinv.2, List.drop_eq_nil_of_le hge]; rfl)
 refine F5 ?_
 refine A3 (A3 (A2 ?_))
 refine A1 rfl (B2 3 rfl E2 rfl P7 (A0 rfl) rfl) ?_
 refine A1 rfl (B1 0 rfl (A0 rfl) rfl T9 rfl) ?_
 refine A1 rfl (E9 rfl J0 (A0 rfl)) ?_
 refine A1 rfl (C2 rfl B4) ?_
 refine A4 (C4 ?_)
 refine H2 [(1, _), (48, _), (49, _)] _ (fun (q : Nat) => q ≤ s.Told.length ∧ ∀ j, j < q → toldAt s j = true) (fun (q : Nat) => []) (fun (q : Nat) => [(50, AV.int q)]) (fun (q : Nat) => s.Told.length - q) (0) ?_ (H1 ⟨rfl, rfl, rfl, rfl, trivial⟩) ?_
 ·exact ⟨Nat.zero_le _, fun j hj => by omega⟩
 intro q hinv
 refine A3 (A2 ?_)
 refine A1 rfl (G0 rfl (A0 rfl) (A0 rfl)) ?_
 refine A4 (A3 ?_)
 refine C0 (A0 rfl) ?_ ?_
 ·intro h51
  have k51 := of_decide_eq_true h51; try simp only [A6] at k51
  have hlt : q < s.Told.length := by omega
  obtain ⟨t, hx⟩ := get_some hlt
  obtain ⟨y, hy⟩ := get_some (show q - 1 < s.Told.length by omega)
  refine C1 (A3 (C4 (A3 (A2 ?_))))
  refine A5 rfl ?_
  refine A1 rfl (I9 rfl J0 K3 (A0 rfl) (A0 rfl) hx (by first | omega | (simp only [D4, B0, szR] at *; omega))) ?_
  refine A1 rfl (H8 rfl (A0 rfl) X6 K3) ?_
  refine I1 rfl rfl rfl rfl Tryz.zeroValue144 rfl ?_
  intro b6
  refine B3 rfl ?_
  refine H9 0 rfl rfl rfl (A0 rfl) (A0 rfl) (J4 _) rfl K3 rfl ?_
  refine A4 (A3 (A2 ?_))
  refine A1 rfl (B2 1 rfl G8 rfl F8 (A0 rfl) rfl) ?_
  refine A1 rfl (B1 0 rfl (A0 rfl) rfl I5 rfl) ?_
  refine A5 rfl ?_
  refine D1 rfl (fun hc => B2 2 rfl G8 rfl B9 (A0 rfl) rfl) ?_
  refine D1 rfl (fun hc => B1 0 rfl (A7 rfl hc) rfl D2 rfl) ?_
  refine D1 rfl (fun hc => B2 0 rfl E2 rfl B9 (A0 rfl) rfl) ?_
  refine D1 rfl (fun hc => B1 1 rfl (A7 rfl hc) rfl D2 rfl) ?_
  refine D1 rfl (fun hc => E1 rfl Tryz.call82 rfl (V1 _ _ _) (A8 (A7 rfl hc) (A8 B4 (A8 (A7 rfl hc) C7)))) ?_
  refine A1 rfl (H5 rfl (A0 rfl) (F3 rfl)) ?_
  refine A5 rfl ?_
  refine H3 rfl (fun hc => B2 1 rfl G8 rfl F8 (A0 rfl) rfl) ?_
  refine H3 rfl (fun hc => B1 0 rfl (A7 rfl hc) rfl I5 rfl) ?_
  refine H3 rfl (fun hc => J3 rfl (A7 rfl hc)) ?_
  refine H3 rfl (fun hc => C2 rfl (A7 rfl hc)) ?_
  refine G9 rfl rfl (D7 rfl rfl rfl) (fun hc => B2 2 rfl G8 rfl B9 (A0 rfl) rfl) ?_
  refine G9 rfl rfl (D7 rfl rfl rfl) (fun hc => B1 0 rfl (A7 rfl hc) rfl D2 rfl) ?_
  refine G9 rfl rfl (D7 rfl rfl rfl) (fun hc => P8 rfl (A7 rfl hc) B4) ?_
  refine H3 rfl (fun hc => H5 rfl (A7 rfl hc) (N2 rfl hc)) ?_
  refine A1 rfl (O1 rfl (A0 rfl) (F3 rfl)) ?_
  refine B3 rfl ?_
  refine A4 (A3 (A3 ?_))
  refine H7 (by kernel_rfl) (by kernel_rfl) rfl ?_
  refine B5 rfl rfl (B2 0 rfl G8 rfl B9 (A0 rfl) rfl) ?_
  refine B5 rfl rfl (B1 0 rfl (A0 rfl) rfl D2 rfl) ?_
  refine B5 rfl rfl (E1 rfl Tryz.call93 rfl (m0 _) (A8 (A0 rfl) C7)) ?_
  refine B5 rfl rfl (J3 rfl (A0 rfl)) ?_
  refine B5 rfl rfl (C2 rfl (A0 rfl)) ?_
  refine D9 rfl (G6 rfl rfl rfl) (fun hc => C2 rfl (A0 rfl)) ?_
  refine D9 rfl (G6 rfl rfl rfl) (fun hc => J3 rfl (A7 rfl hc)) ?_
  refine B5 rfl rfl (O1 rfl (A0 rfl) (F3 rfl)) ?_
  refine B5 rfl rfl (C2 rfl (A0 rfl)) ?_
  refine D9 rfl (G6 rfl rfl rfl) (fun hc => C2 rfl (A0 rfl)) ?_
  refine D9 rfl (G6 rfl rfl rfl) (fun hc => R4 rfl (A7 rfl hc) B4) ?_
  refine D9 rfl (G6 rfl rfl rfl) (fun hc => C2 rfl (A7 rfl hc)) ?_
  refine D9 rfl (D7 rfl rfl rfl) (fun hc => B2 0 rfl G8 rfl B9 (A0 rfl) rfl) ?_
  refine D9 rfl (D7 rfl rfl rfl) (fun hc => B1 0 rfl (A7 rfl hc) rfl D2 rfl) ?_
  refine D9 rfl (D7 rfl rfl rfl) (fun hc => B2 3 rfl E2 rfl P7 (A0 rfl) rfl) ?_
  refine D9 rfl (D7 rfl rfl rfl) (fun hc => B1 1 rfl (A7 rfl hc) rfl T9 rfl) ?_
  refine D9 rfl (D7 rfl rfl rfl) (fun hc => C2 rfl (A0 rfl)) ?_
  refine D9 rfl (D7 rfl rfl rfl) (fun hc => P4 rfl (A7 rfl hc) B4 (by first | omega | ((try simp only [D4, B0, szR] at *); omega) | (have hc2 := hc; simp only [O6, beq_iff_eq, bne_iff_ne, A6, F4] at hc2; omega))) ?_
  refine D9 rfl (D7 rfl rfl rfl) (fun hc => I9 rfl J0 K3 (A7 rfl hc) (A7 rfl hc) hy (by first | omega | ((try simp only [D4, B0, szR] at *); omega) | (have hc2 := hc; simp only [O6, beq_iff_eq, bne_iff_ne, A6, F4] at hc2; omega))) ?_
  refine D9 rfl (D7 rfl rfl rfl) (fun hc => Q2 rfl G8 rfl B9 (A7 rfl hc) rfl) ?_
  refine D9 rfl (D7 rfl rfl rfl) (fun hc => J5 rfl (A7 rfl hc) D2 rfl) ?_
  refine D9 rfl (D7 rfl rfl rfl) (fun hc => R7 rfl (A7 rfl hc) (A7 rfl hc)) ?_
  refine D9 rfl (G6 rfl rfl rfl) (fun hc => H5 rfl (A7 rfl hc) (N2 rfl hc)) ?_
  refine B5 rfl rfl (O1 rfl (A0 rfl) (F3 rfl)) ?_
  refine O5 ?_
  refine C0 (A0 rfl) ?_ ?_
  ·intro h97
   have hfin : goodState s = false := by (rw [hgs2]; exact T8 hlt (by rw [s4 hx hy, h97]; rfl))
   refine A3 (A2 ?_)
   refine A1 rfl (A9 rfl E3) ?_
   refine A4 ?_
   refine B8 ?_
   exact E4 rfl (B7 rfl (by exact congrArg AV.bool hfin.symm))
  intro h97
  refine C1 (A3 (A2 ?_))
  refine A1 rfl (K8 1 rfl (A0 rfl) rfl O0 L3 rfl) ?_
  refine A1 rfl (B2 0 rfl G8 rfl B9 (A0 rfl) rfl) ?_
  refine A1 rfl (B1 0 rfl (A0 rfl) rfl D2 rfl) ?_
  refine A1 rfl (E1 rfl Tryz.call94 rfl (AT1 _ _ (by first | assumption | omega)) (A8 (A0 rfl) (A8 (A0 rfl) C7))) ?_
  refine A5 rfl ?_
  refine A1 rfl (M2 rfl (A0 rfl) rfl) ?_
  refine A1 rfl (M2 rfl (A0 rfl) rfl) ?_
  refine B3 rfl ?_
  refine B3 rfl ?_
  refine A4 (A3 (A2 ?_))
  refine A5 rfl ?_
  refine A4 ?_
  refine C0 (A0 rfl) ?_ ?_
  ·intro h105
   have hfin : goodState s = false := by (rw [hgs2]; exact T8 hlt (by rw [s4 hx hy, ← Ag6 hsrt, h105]; simp))
   refine A3 (A2 ?_)
   refine A1 rfl (A9 rfl E3) ?_
   refine A4 ?_
   refine B8 ?_
   exact E4 rfl (B7 rfl (by exact congrArg AV.bool hfin.symm))
  intro h105
  refine C1 (A2 ?_)
  refine A1 rfl (F1 rfl (A0 rfl) B4 (by first | omega | (simp only [D4, B0, szR] at *; omega))) ?_
  refine A5 rfl ?_
  refine A4 ?_
  refine I0 q (q + 1) ?_ ?_ (S3 1 ⟨rfl, rfl, rfl, rfl, trivial⟩)
  ·exact ⟨by omega, fun j hj => if hji : j < q then hinv.2 j hji else (by have e : j = q := (by omega); subst e; rw [s4 hx hy, h97, ← Ag6 hsrt, h105]; rfl)⟩
  omega
 intro h51
 have k51 := of_decide_eq_false h51; try simp only [A6] at k51
 have hge : s.Told.length ≤ q := by omega
 have hfin : goodState s = true := by (rw [hgs2]; exact a7.2 fun j hj => hinv.2 j (by omega))
 refine F5 ?_
 refine A3 (A2 ?_)
 refine A1 rfl (A9 rfl E3) ?_
 refine A4 ?_
 refine B8 ?_
 exact E4 rfl (B7 rfl (by exact congrArg AV.bool hfin.symm))
end Go.Proofs.YtkegepoihkhihaaGreat

namespace Go.Proofs.YtkegepoihkhihaaGreat
open Go Go.AV Go.M
attribute [local irreducible] OpW OpA OpS AWP FSpec ESpec GSpec OpE RetOk RetOkG RvDen Le Ev GuardIs
theorem S1 (k : Int) (h : k ≤ 4611686018427387904) : FSpec Tryz.prog 61 [AV.int k] (AV.str (markText k)) := by
 refine D3 Tryz.func61 rfl Tryz.ntmps61 rfl ?_
 refine A3 (A2 ?_)
 refine A1 rfl (A9 rfl (c9 (l := []) rfl)) ?_
 refine A4 (A3 (A3 (A2 ?_)))
 refine A5 rfl ?_
 refine A1 rfl (R7 rfl (A0 rfl) B4) ?_
 refine A4 ?_
 refine C0 (A0 rfl) ?_ ?_
 ·intro h5
  have k5 := of_decide_eq_true h5; try simp only [A6] at k5
  have he : markText k = [109, 48] := by unfold markText; rw [if_pos k5]
  rw [he]
  refine A3 (A2 ?_)
  refine A1 rfl (A9 rfl (c9 (l := [109, 48]) rfl)) ?_
  refine A4 ?_
  refine B8 ?_
  exact E4 rfl (B7 rfl (by first | rfl | exact congrArg AV.str (by rw [hz]; rfl)))
 intro h5
 have k5 := of_decide_eq_false h5; try simp only [A6] at k5
 obtain ⟨m, rfl⟩ : ∃ m : Nat, k = (m : Int) := ⟨k.toNat, by omega⟩
 have he : markText (m : Int) = 109 :: digs m [] := by unfold markText; rw [if_neg k5]; rfl
 rw [he]
 refine C1 (A3 (A2 ?_))
 refine A1 rfl (A9 rfl (c9 (l := []) rfl)) ?_
 refine A4 (A3 (C4 ?_))
 refine J8 [(2, _)] _ (fun (j : Nat) (out : Str) => digs m [] = digs j out ∧ out.length + j ≤ m) (fun (j : Nat) (out : Str) => []) (fun (j : Nat) (out : Str) => [(0, AV.int j), (3, AV.str out)]) (fun (j : Nat) (out : Str) => j) (m) ([]) ?_ (H1 ⟨rfl, rfl, rfl, trivial⟩) ?_
 ·exact ⟨rfl, by simp⟩
 intro j out hinv
 refine A3 (A3 (A2 ?_))
 refine A5 rfl ?_
 refine A1 rfl (R4 rfl (A0 rfl) B4) ?_
 refine A4 ?_
 refine C0 (A0 rfl) ?_ ?_
 ·intro h7
  have k7 := of_decide_eq_true h7; try simp only [A6] at k7
  refine C1 (C4 (A3 (A2 ?_)))
  refine A5 rfl ?_
  refine A1 rfl (AD7 rfl (A0 rfl) B4 (by decide)) ?_
  refine A1 rfl (F1 rfl B4 (A0 rfl) (by rw [tmod10]; omega)) ?_
  refine A1 rfl (o2 rfl (by kernel_rfl) Tryz.underlying5 (A0 rfl)) ?_
  rw [mk_byte]
  refine A1 rfl (X8 rfl Tryz.underlying59 Tryz.sizeOf5 Tryz.zeroValue5 rfl rfl rfl rfl (N3 (A0 rfl) (P9 _ _) W7) rfl rfl) ?_
  refine A1 rfl (w_convBS (l := [UInt8.ofNat (48 + j % 10)]) rfl Tryz.underlying59 Tryz.underlying5 I3 (A0 rfl)) ?_
  refine A5 rfl ?_
  refine A1 rfl (w_cat rfl (A0 rfl) (A0 rfl) (by first | omega | (simp only [I6, F4, List.length_drop, J9, X3]; omega))) ?_
  refine B3 rfl ?_
  refine A4 (A2 ?_)
  refine A5 rfl ?_
  refine A1 rfl (w_quo rfl (A0 rfl) B4 (by decide)) ?_
  rw [mk_quo (k := j) (by omega)]
  refine B3 rfl ?_
  refine A4 ?_
  refine g8 ?_
  refine J2 j out (j / 10) (UInt8.ofNat (48 + j % 10) :: out) ?_ ?_ (H1 ⟨rfl, rfl, rfl, trivial⟩)
  ·exact ⟨by rw [hinv.1, digs_pos (by omega)], by simp only [J9]; omega⟩
  omega
 intro h7
 have k7 := of_decide_eq_false h7; try simp only [A6] at k7
 have hz : digs m [] = out := by rw [hinv.1, Ao1 (by omega)]
 refine F5 ?_
 refine A3 (A2 ?_)
 refine A5 rfl ?_
 refine A1 rfl (w_cat rfl (c9 (l := [109]) rfl) (A0 rfl) (by first | omega | (simp only [I6, F4, List.length_drop, J9, X3]; omega))) ?_
 refine B3 rfl ?_
 refine A4 ?_
 refine B8 ?_
 exact E4 rfl (B7 rfl (by first | rfl | exact congrArg AV.str (by rw [hz]; rfl)))
theorem AT2 (l : List Str) (hs : sizeL (fun x => x.length) l ≤ 1048576) : GSpec Tryz.prog 134 [strs l] [] (fun _ : Value => True) (fun v => [.arr v 9 1 (l.map (fun x => [AV.str x]))]) (fun v => AV.is v) := by
 have hsl : l.length ≤ 1048576 := Nat.le_trans L1 hs
 refine K0 Tryz.func134 rfl Tryz.ntmps134 rfl ?_
 refine A3 (A2 ?_)
 refine A1 rfl (A9 rfl S2) ?_
 refine A4 (A3 (A2 ?_))
 refine A5 rfl ?_
 refine A1 rfl (E9 rfl D5 (A0 rfl)) ?_
 refine V7 (by' := 16) rfl rfl rfl rfl D5 Tryz.type9 rfl rfl rfl rfl rfl rfl (A0 rfl) (A0 rfl) (by simp only [A6]; omega) (by simp only [A6]; omega) ?_
 intro v7
 refine B3 rfl ?_
 refine A4 (A3 (A3 (A2 ?_)))
 refine A1 rfl (A9 rfl B4) ?_
 refine A4 (C4 ?_)
 refine H2 [(0, _), (2, _), (3, _)] _ (fun (i : Nat) => i ≤ l.length) (fun (i : Nat) => [.arr v7 9 1 ((l.take i).map (fun x => [AV.str x]) ++ List.replicate (l.length - i) [AV.str []])]) (fun (i : Nat) => [(4, AV.int i)]) (fun (i : Nat) => l.length - i) (0) ?_ (K7 (by simp only [A6]; rfl) ⟨rfl, rfl, rfl, rfl, trivial⟩) ?_
 ·exact Nat.zero_le _
 intro i hinv
 refine A3 (A3 (A2 ?_))
 refine A5 rfl ?_
 refine A5 rfl ?_
 refine A1 rfl (E9 rfl D5 (A0 rfl)) ?_
 refine A1 rfl (G0 rfl (A0 rfl) (A0 rfl)) ?_
 refine A4 ?_
 refine C0 (A0 rfl) ?_ ?_
 ·intro h11
  have k11 := of_decide_eq_true h11; try simp only [A6] at k11
  have hlt : i < l.length := by omega
  obtain ⟨x, hx⟩ := get_some hlt
  refine C1 (A3 (C4 (A2 ?_)))
  refine A5 rfl ?_
  refine A5 rfl ?_
  refine A5 rfl ?_
  refine A5 rfl ?_
  refine A1 rfl (O7 rfl D5 C6 (A0 rfl) (A0 rfl) (by omega) (by simp only [Int.toNat_natCast, List.getElem?_map, hx, Option.map_some]; try rfl)) ?_
  refine A1 rfl (J5 rfl (A0 rfl) E5 rfl) ?_
  refine A1 rfl (L0 0 rfl D5 C6 (A0 rfl) rfl (A0 rfl) (by omega) (by rw [P6 hinv]; omega)) ?_
  refine R8 0 rfl rfl rfl (A0 rfl) (A0 rfl) (Q7 _) rfl C6 rfl (by rw [P6 hinv]; omega) ?_
  refine A4 (A2 ?_)
  refine A5 rfl ?_
  refine A1 rfl (F1 rfl (A0 rfl) B4 (by first | omega | (simp only [D4, B0, szR] at *; omega))) ?_
  refine B3 rfl ?_
  refine A4 ?_
  refine I0 i (i + 1) ?_ ?_ (K7 (by exact congrArg (fun z => [Own.arr v7 9 1 z]) (U9 hx)) ⟨rfl, rfl, rfl, rfl, trivial⟩)
  ·omega
  omega
 intro h11
 have k11 := of_decide_eq_false h11; try simp only [A6] at k11
 have hge : l.length ≤ i := by omega
 rw [V0 hge]
 refine F5 ?_
 refine A3 (A2 ?_)
 refine A5 rfl ?_
 refine B3 rfl ?_
 refine A4 ?_
 refine B8 ?_
 exact V4 [0] v7 (trivial) rfl (by rfl) (U3 rfl (B7 rfl (by first | rfl | (refine congrArg AV.bool ?_; simp_all; done))))
theorem AI0 (v : Value) (l : List Str) (k : Int) (h : 0 ≤ k ∧ k + 1 * l.length ≤ 4611686018427387904) : GSpec Tryz.prog 99 [AV.is v, AV.int k] [.arr v 9 1 (l.map (fun x => [AV.str x]))] (fun _ : Unit => True) (fun _ => [.arr v 9 1 ((marks markText 1 l.length k).map (fun x => [AV.str x]))]) (fun _ => AV.int (k + 1 * l.length)) := by
 refine K0 Tryz.func99 rfl Tryz.ntmps99 rfl ?_
 refine A3 (A2 ?_)
 refine A1 rfl (A9 rfl B4) ?_
 refine A4 (A3 (A3 (A2 ?_)))
 refine A1 rfl (A9 rfl B4) ?_
 refine A4 (C4 ?_)
 refine J8 [(0, _), (4, _)] _ (fun (i : Nat) (c : Int) => i ≤ l.length ∧ c = k + 1 * i) (fun (i : Nat) (c : Int) => [.arr v 9 1 ((marks markText 1 i k).map (fun x => [AV.str x]) ++ (l.drop i).map (fun x => [AV.str x]))]) (fun (i : Nat) (c : Int) => [(1, AV.int c), (5, AV.int i)]) (fun (i : Nat) (c : Int) => l.length - i) (0) (k) ?_ (K7 (by simp only [marks, List.map_nil, List.nil_append, List.drop_zero]; rfl) ⟨rfl, rfl, rfl, rfl, trivial⟩) ?_
 ·exact ⟨Nat.zero_le _, by simp⟩
 intro i c hinv
 refine A3 (A3 (A2 ?_))
 refine A5 rfl ?_
 refine A5 rfl ?_
 refine A1 rfl (V3 0 rfl D5 (A0 rfl) rfl) ?_
 refine A1 rfl (G0 rfl (A0 rfl) (A0 rfl)) ?_
 refine A4 ?_
 refine C0 (A0 rfl) ?_ ?_
 ·intro h9
  have k9 := of_decide_eq_true h9; try simp only [A6] at k9
  simp only [I6, A6, G3, List.length_drop] at k9
  have hlt : i < l.length := by omega
  obtain ⟨x, hx⟩ := get_some hlt
  rw [o9 hx]
  refine C1 (A3 (C4 (A3 (A2 ?_))))
  refine A5 rfl ?_
  refine A5 rfl ?_
  refine A5 rfl ?_
  refine A1 rfl (E1 rfl Tryz.call61 rfl (S1 _ (by omega)) (A8 (A0 rfl) C7)) ?_
  refine A1 rfl (L0 0 rfl D5 C6 (A0 rfl) rfl (A0 rfl) (by omega) (by simp only [I6, A6, G3, J9, List.length_drop]; omega)) ?_
  refine Ah5 0 rfl rfl rfl (A0 rfl) (A0 rfl) (Q7 _) rfl C6 rfl (by simp [G3]) ?_
  refine A4 (A2 ?_)
  refine A5 rfl ?_
  refine A1 rfl (F1 rfl (A0 rfl) B4 (by first | omega | (simp only [D4, B0, szR] at *; omega))) ?_
  refine B3 rfl ?_
  refine A4 (A2 ?_)
  refine A5 rfl ?_
  refine A1 rfl (F1 rfl (A0 rfl) B4 (by first | omega | (simp only [D4, B0, szR] at *; omega))) ?_
  refine B3 rfl ?_
  refine A4 ?_
  refine J2 i c (i + 1) (c + 1) ?_ ?_ (K7 (by exact congrArg (fun z => [Own.arr v 9 1 z]) (j0 (by first | (rw [← hinv.2]; done) | (rw [← hinv.2]; rfl)))) ⟨rfl, rfl, rfl, rfl, trivial⟩)
  ·exact ⟨by omega, by omega⟩
  omega
 intro h9
 have k9 := of_decide_eq_false h9; try simp only [A6] at k9
 simp only [I6, A6, G3, List.length_drop] at k9
 have hge : i = l.length := by omega
 subst hge
 simp only [List.drop_length, List.map_nil, List.append_nil]
 refine F5 ?_
 refine A3 (A2 ?_)
 refine A5 rfl ?_
 refine B3 rfl ?_
 refine A4 ?_
 refine B8 ?_
 exact V4 [0] () (trivial) rfl (by rfl) (U3 rfl (B7 rfl (by exact congrArg AV.int (by omega))))
theorem AZ4 (l : List TWrite) (hs : sizeL TWrite.size l ≤ 1048576) : GSpec Tryz.prog 135 [AV.list 3 (l.map TWrite.cs)] [] (fun _ : Value => True) (fun v => [.arr v 101 3 (l.map TWrite.cs)]) (fun v => AV.is v) := by
 have hsl : l.length ≤ 1048576 := Nat.le_trans L1 hs
 refine K0 Tryz.func135 rfl Tryz.ntmps135 rfl ?_
 refine A3 (A2 ?_)
 refine A1 rfl (A9 rfl S2) ?_
 refine A4 (A3 (A2 ?_))
 refine A5 rfl ?_
 refine A1 rfl (E9 rfl O3 (A0 rfl)) ?_
 refine V7 (by' := 40) rfl rfl rfl rfl E7 Tryz.type101 rfl rfl rfl rfl rfl rfl (A0 rfl) (A0 rfl) (by simp only [A6]; omega) (by simp only [A6]; omega) ?_
 intro v7
 refine B3 rfl ?_
 refine A4 (A3 (A3 (A2 ?_)))
 refine A1 rfl (A9 rfl B4) ?_
 refine A4 (C4 ?_)
 refine H2 [(0, _), (2, _), (3, _)] _ (fun (i : Nat) => i ≤ l.length) (fun (i : Nat) => [.arr v7 101 3 ((l.take i).map TWrite.cs ++ List.replicate (l.length - i) [AV.str [], AV.str [], AV.bool false])]) (fun (i : Nat) => [(4, AV.int i)]) (fun (i : Nat) => l.length - i) (0) ?_ (K7 (by simp only [A6]; rfl) ⟨rfl, rfl, rfl, rfl, trivial⟩) ?_
 ·exact Nat.zero_le _
 intro i hinv
 refine A3 (A3 (A2 ?_))
 refine A5 rfl ?_
 refine A5 rfl ?_
 refine A1 rfl (E9 rfl O3 (A0 rfl)) ?_
 refine A1 rfl (G0 rfl (A0 rfl) (A0 rfl)) ?_
 refine A4 ?_
 refine C0 (A0 rfl) ?_ ?_
 ·intro h11
  have k11 := of_decide_eq_true h11; try simp only [A6] at k11
  have hlt : i < l.length := by omega
  obtain ⟨x, hx⟩ := get_some hlt
  have hsx : TWrite.size x ≤ 1048576 := Nat.le_trans (Q5 hx) hs
  refine C1 (A3 (C4 (A2 ?_)))
  refine A5 rfl ?_
  refine A5 rfl ?_
  refine A5 rfl ?_
  refine A5 rfl ?_
  refine A1 rfl (O7 rfl O3 W0 (A0 rfl) (A0 rfl) (by omega) (by simp only [Int.toNat_natCast, List.getElem?_map, hx, Option.map_some]; try rfl)) ?_
  refine A1 rfl (H8 rfl (A0 rfl) Tryz.isAgg219 W0) ?_
  refine A1 rfl (E1 rfl Tryz.call184 rfl (AC9 _ (by first | assumption | omega | (simp only [] at *; omega))) (A8 (A0 rfl) C7)) ?_
  refine A1 rfl (L0 0 rfl E7 G1 (A0 rfl) rfl (A0 rfl) (by omega) (by rw [P6 hinv]; omega)) ?_
  refine R8 0 rfl rfl rfl (A0 rfl) (A0 rfl) (J4 _) rfl G1 rfl (by rw [P6 hinv]; omega) ?_
  refine A4 (A2 ?_)
  refine A5 rfl ?_
  refine A1 rfl (F1 rfl (A0 rfl) B4 (by first | omega | (simp only [D4, B0, szR] at *; omega))) ?_
  refine B3 rfl ?_
  refine A4 ?_
  refine I0 i (i + 1) ?_ ?_ (K7 (by exact congrArg (fun z => [Own.arr v7 101 3 z]) (U9 hx)) ⟨rfl, rfl, rfl, rfl, trivial⟩)
  ·omega
  omega
 intro h11
 have k11 := of_decide_eq_false h11; try simp only [A6] at k11
 have hge : l.length ≤ i := by omega
 rw [V0 hge]
 refine F5 ?_
 refine A3 (A2 ?_)
 refine A5 rfl ?_
 refine B3 rfl ?_
 refine A4 ?_
 refine B8 ?_
 exact V4 [0] v7 (trivial) rfl (by rfl) (U3 rfl (B7 rfl (by first | rfl | (refine congrArg AV.bool ?_; simp_all; done))))
theorem AK8 (v : Value) (l : List TWrite) (k : Int) (h : 0 ≤ k ∧ k + 3 * l.length ≤ 4611686018427387904) : GSpec Tryz.prog 100 [AV.is v, AV.int k] [.arr v 101 3 (l.map TWrite.cs)] (fun _ : Unit => True) (fun _ => [.arr v 101 3 ((marks mkWrite 3 l.length k).map TWrite.cs)]) (fun _ => AV.int (k + 3 * l.length)) := by
 refine K0 Tryz.func100 rfl Tryz.ntmps100 rfl ?_
 refine A3 (A2 ?_)
 refine A1 rfl (A9 rfl B4) ?_
 refine A4 (A3 (A3 (A2 ?_)))
 refine A1 rfl (A9 rfl B4) ?_
 refine A4 (C4 ?_)
 refine J8 [(0, _), (4, _)] _ (fun (i : Nat) (c : Int) => i ≤ l.length ∧ c = k + 3 * i) (fun (i : Nat) (c : Int) => [.arr v 101 3 ((marks mkWrite 3 i k).map TWrite.cs ++ (l.drop i).map TWrite.cs)]) (fun (i : Nat) (c : Int) => [(1, AV.int c), (5, AV.int i)]) (fun (i : Nat) (c : Int) => l.length - i) (0) (k) ?_ (K7 (by simp only [marks, List.map_nil, List.nil_append, List.drop_zero]; rfl) ⟨rfl, rfl, rfl, rfl, trivial⟩) ?_
 ·exact ⟨Nat.zero_le _, by simp⟩
 intro i c hinv
 refine A3 (A3 (A2 ?_))
 refine A5 rfl ?_
 refine A5 rfl ?_
 refine A1 rfl (V3 0 rfl E7 (A0 rfl) rfl) ?_
 refine A1 rfl (G0 rfl (A0 rfl) (A0 rfl)) ?_
 refine A4 ?_
 refine C0 (A0 rfl) ?_ ?_
 ·intro h9
  have k9 := of_decide_eq_true h9; try simp only [A6] at k9
  simp only [I6, A6, G3, List.length_drop] at k9
  have hlt : i < l.length := by omega
  obtain ⟨x, hx⟩ := get_some hlt
  rw [o9 hx]
  refine C1 (A3 (C4 (A3 (A2 ?_))))
  refine A5 rfl ?_
  refine A5 rfl ?_
  refine A5 rfl ?_
  refine A1 rfl (E1 rfl Tryz.call61 rfl (S1 _ (by omega)) (A8 (A0 rfl) C7)) ?_
  refine A1 rfl (L0 0 rfl E7 G1 (A0 rfl) rfl (A0 rfl) (by omega) (by simp only [I6, A6, G3, J9, List.length_drop]; omega)) ?_
  refine A1 rfl (S0 0 rfl G2 rfl C6 (A0 rfl) rfl rfl (O9 (by simp [G3]))) ?_
  refine O2 0 rfl rfl rfl (A0 rfl) (A0 rfl) (Q7 _) rfl C6 (by simp [G3]) rfl ?_
  refine A4 (A3 (A2 ?_))
  refine A5 rfl ?_
  refine A1 rfl (F1 rfl (A0 rfl) B4 (by first | omega | (simp only [D4, B0, szR] at *; omega))) ?_
  refine B3 rfl ?_
  refine A4 (A3 (A2 ?_))
  refine A5 rfl ?_
  refine A5 rfl ?_
  refine A5 rfl ?_
  refine A1 rfl (E1 rfl Tryz.call61 rfl (S1 _ (by omega)) (A8 (A0 rfl) C7)) ?_
  refine A1 rfl (L0 0 rfl E7 G1 (A0 rfl) rfl (A0 rfl) (by omega) (by simp only [I6, A6, G3, J9, List.length_drop]; omega)) ?_
  refine A1 rfl (S0 0 rfl G2 rfl C6 (A0 rfl) rfl rfl (O9 (by simp [G3]))) ?_
  refine O2 0 rfl rfl rfl (A0 rfl) (A0 rfl) (Q7 _) rfl C6 (by simp [G3]) rfl ?_
  refine A4 (A3 (A2 ?_))
  refine A5 rfl ?_
  refine A1 rfl (F1 rfl (A0 rfl) B4 (by first | omega | (simp only [D4, B0, szR] at *; omega))) ?_
  refine B3 rfl ?_
  refine A4 (A3 (A2 ?_))
  refine A5 rfl ?_
  refine A5 rfl ?_
  refine A5 rfl ?_
  refine A1 rfl (AD7 rfl (A0 rfl) B4 (by first | omega | (simp only [D4, B0, szR] at *; omega))) ?_
  refine A1 rfl (P8 rfl (A0 rfl) B4) ?_
  refine A1 rfl (L0 0 rfl E7 G1 (A0 rfl) rfl (A0 rfl) (by omega) (by simp only [I6, A6, G3, J9, List.length_drop]; omega)) ?_
  refine A1 rfl (S0 0 rfl G2 rfl F8 (A0 rfl) rfl rfl (O9 (by simp [G3]))) ?_
  refine O2 0 rfl rfl rfl (A0 rfl) (A0 rfl) (c4 _) rfl F8 (by simp [G3]) rfl ?_
  refine A4 (A2 ?_)
  refine A5 rfl ?_
  refine A1 rfl (F1 rfl (A0 rfl) B4 (by first | omega | (simp only [D4, B0, szR] at *; omega))) ?_
  refine B3 rfl ?_
  refine A4 (A2 ?_)
  refine A5 rfl ?_
  refine A1 rfl (F1 rfl (A0 rfl) B4 (by first | omega | (simp only [D4, B0, szR] at *; omega))) ?_
  refine B3 rfl ?_
  refine A4 ?_
  refine J2 i c (i + 1) (c + 1 + 1 + 1) ?_ ?_ (K7 (by exact congrArg (fun z => [Own.arr v 101 3 z]) (j0 (by first | (rw [← hinv.2]; done) | (rw [← hinv.2]; rfl)))) ⟨rfl, rfl, rfl, rfl, trivial⟩)
  ·exact ⟨by omega, by omega⟩
  omega
 intro h9
 have k9 := of_decide_eq_false h9; try simp only [A6] at k9
 simp only [I6, A6, G3, List.length_drop] at k9
 have hge : i = l.length := by omega
 subst hge
 simp only [List.drop_length, List.map_nil, List.append_nil]
 refine F5 ?_
 refine A3 (A2 ?_)
 refine A5 rfl ?_
 refine B3 rfl ?_
 refine A4 ?_
 refine B8 ?_
 exact V4 [0] () (trivial) rfl (by rfl) (U3 rfl (B7 rfl (by exact congrArg AV.int (by omega))))
theorem Aj6 (l : List TVer) (hs : sizeL TVer.size l ≤ 1048576) : GSpec Tryz.prog 133 [AV.list 3 (l.map TVer.cs)] [] (fun _ : Value => True) (fun v => [.arr v 127 3 (l.map TVer.cs)]) (fun v => AV.is v) := by
 have hsl : l.length ≤ 1048576 := Nat.le_trans L1 hs
 refine K0 Tryz.func133 rfl Tryz.ntmps133 rfl ?_
 refine A3 (A2 ?_)
 refine A1 rfl (A9 rfl S2) ?_
 refine A4 (A3 (A2 ?_))
 refine A5 rfl ?_
 refine A1 rfl (E9 rfl O4 (A0 rfl)) ?_
 refine V7 (by' := 32) rfl rfl rfl rfl G5 Tryz.type127 rfl rfl rfl rfl rfl rfl (A0 rfl) (A0 rfl) (by simp only [A6]; omega) (by simp only [A6]; omega) ?_
 intro v7
 refine B3 rfl ?_
 refine A4 (A3 (A3 (A2 ?_)))
 refine A1 rfl (A9 rfl B4) ?_
 refine A4 (C4 ?_)
 refine H2 [(0, _), (2, _), (3, _)] _ (fun (i : Nat) => i ≤ l.length) (fun (i : Nat) => [.arr v7 127 3 ((l.take i).map TVer.cs ++ List.replicate (l.length - i) [AV.int 0, AV.str [], AV.bool false])]) (fun (i : Nat) => [(4, AV.int i)]) (fun (i : Nat) => l.length - i) (0) ?_ (K7 (by simp only [A6]; rfl) ⟨rfl, rfl, rfl, rfl, trivial⟩) ?_
 ·exact Nat.zero_le _
 intro i hinv
 refine A3 (A3 (A2 ?_))
 refine A5 rfl ?_
 refine A5 rfl ?_
 refine A1 rfl (E9 rfl O4 (A0 rfl)) ?_
 refine A1 rfl (G0 rfl (A0 rfl) (A0 rfl)) ?_
 refine A4 ?_
 refine C0 (A0 rfl) ?_ ?_
 ·intro h11
  have k11 := of_decide_eq_true h11; try simp only [A6] at k11
  have hlt : i < l.length := by omega
  obtain ⟨x, hx⟩ := get_some hlt
  have hsx : TVer.size x ≤ 1048576 := Nat.le_trans (Q5 hx) hs
  refine C1 (A3 (C4 (A2 ?_)))
  refine A5 rfl ?_
  refine A5 rfl ?_
  refine A5 rfl ?_
  refine A5 rfl ?_
  refine A1 rfl (O7 rfl O4 W1 (A0 rfl) (A0 rfl) (by omega) (by simp only [Int.toNat_natCast, List.getElem?_map, hx, Option.map_some]; try rfl)) ?_
  refine A1 rfl (H8 rfl (A0 rfl) Tryz.isAgg217 W1) ?_
  refine A1 rfl (E1 rfl Tryz.call183 rfl (AK6 _ (by first | assumption | omega | (simp only [] at *; omega))) (A8 (A0 rfl) C7)) ?_
  refine A1 rfl (L0 0 rfl G5 I4 (A0 rfl) rfl (A0 rfl) (by omega) (by rw [P6 hinv]; omega)) ?_
  refine R8 0 rfl rfl rfl (A0 rfl) (A0 rfl) (J4 _) rfl I4 rfl (by rw [P6 hinv]; omega) ?_
  refine A4 (A2 ?_)
  refine A5 rfl ?_
  refine A1 rfl (F1 rfl (A0 rfl) B4 (by first | omega | (simp only [D4, B0, szR] at *; omega))) ?_
  refine B3 rfl ?_
  refine A4 ?_
  refine I0 i (i + 1) ?_ ?_ (K7 (by exact congrArg (fun z => [Own.arr v7 127 3 z]) (U9 hx)) ⟨rfl, rfl, rfl, rfl, trivial⟩)
  ·omega
  omega
 intro h11
 have k11 := of_decide_eq_false h11; try simp only [A6] at k11
 have hge : l.length ≤ i := by omega
 rw [V0 hge]
 refine F5 ?_
 refine A3 (A2 ?_)
 refine A5 rfl ?_
 refine B3 rfl ?_
 refine A4 ?_
 refine B8 ?_
 exact V4 [0] v7 (trivial) rfl (by rfl) (U3 rfl (B7 rfl (by first | rfl | (refine congrArg AV.bool ?_; simp_all; done))))
theorem AT3 (v : Value) (l : List TVer) (k : Int) (h : 0 ≤ k ∧ k + 3 * l.length ≤ 4611686018427387904) : GSpec Tryz.prog 98 [AV.is v, AV.int k] [.arr v 127 3 (l.map TVer.cs)] (fun _ : Unit => True) (fun _ => [.arr v 127 3 ((marks mkVer 3 l.length k).map TVer.cs)]) (fun _ => AV.int (k + 3 * l.length)) := by
 refine K0 Tryz.func98 rfl Tryz.ntmps98 rfl ?_
 refine A3 (A2 ?_)
 refine A1 rfl (A9 rfl B4) ?_
 refine A4 (A3 (A3 (A2 ?_)))
 refine A1 rfl (A9 rfl B4) ?_
 refine A4 (C4 ?_)
 refine J8 [(0, _), (4, _)] _ (fun (i : Nat) (c : Int) => i ≤ l.length ∧ c = k + 3 * i) (fun (i : Nat) (c : Int) => [.arr v 127 3 ((marks mkVer 3 i k).map TVer.cs ++ (l.drop i).map TVer.cs)]) (fun (i : Nat) (c : Int) => [(1, AV.int c), (5, AV.int i)]) (fun (i : Nat) (c : Int) => l.length - i) (0) (k) ?_ (K7 (by simp only [marks, List.map_nil, List.nil_append, List.drop_zero]; rfl) ⟨rfl, rfl, rfl, rfl, trivial⟩) ?_
 ·exact ⟨Nat.zero_le _, by simp⟩
 intro i c hinv
 refine A3 (A3 (A2 ?_))
 refine A5 rfl ?_
 refine A5 rfl ?_
 refine A1 rfl (V3 0 rfl G5 (A0 rfl) rfl) ?_
 refine A1 rfl (G0 rfl (A0 rfl) (A0 rfl)) ?_
 refine A4 ?_
 refine C0 (A0 rfl) ?_ ?_
 ·intro h9
  have k9 := of_decide_eq_true h9; try simp only [A6] at k9
  simp only [I6, A6, G3, List.length_drop] at k9
  have hlt : i < l.length := by omega
  obtain ⟨x, hx⟩ := get_some hlt
  rw [o9 hx]
  refine C1 (A3 (C4 (A3 (A2 ?_))))
  refine A5 rfl ?_
  refine A5 rfl ?_
  refine A5 rfl ?_
  refine A1 rfl (L0 0 rfl G5 I4 (A0 rfl) rfl (A0 rfl) (by omega) (by simp only [I6, A6, G3, J9, List.length_drop]; omega)) ?_
  refine A1 rfl (S0 0 rfl F7 rfl B9 (A0 rfl) rfl rfl (O9 (by simp [G3]))) ?_
  refine O2 0 rfl rfl rfl (A0 rfl) (A0 rfl) (P9 _ _) rfl B9 (by simp [G3]) rfl ?_
  refine A4 (A3 (A2 ?_))
  refine A5 rfl ?_
  refine A1 rfl (F1 rfl (A0 rfl) B4 (by first | omega | (simp only [D4, B0, szR] at *; omega))) ?_
  refine B3 rfl ?_
  refine A4 (A3 (A2 ?_))
  refine A5 rfl ?_
  refine A5 rfl ?_
  refine A5 rfl ?_
  refine A1 rfl (E1 rfl Tryz.call61 rfl (S1 _ (by omega)) (A8 (A0 rfl) C7)) ?_
  refine A1 rfl (L0 0 rfl G5 I4 (A0 rfl) rfl (A0 rfl) (by omega) (by simp only [I6, A6, G3, J9, List.length_drop]; omega)) ?_
  refine A1 rfl (S0 0 rfl F7 rfl C6 (A0 rfl) rfl rfl (O9 (by simp [G3]))) ?_
  refine O2 0 rfl rfl rfl (A0 rfl) (A0 rfl) (Q7 _) rfl C6 (by simp [G3]) rfl ?_
  refine A4 (A3 (A2 ?_))
  refine A5 rfl ?_
  refine A1 rfl (F1 rfl (A0 rfl) B4 (by first | omega | (simp only [D4, B0, szR] at *; omega))) ?_
  refine B3 rfl ?_
  refine A4 (A3 (A2 ?_))
  refine A5 rfl ?_
  refine A5 rfl ?_
  refine A5 rfl ?_
  refine A1 rfl (AD7 rfl (A0 rfl) B4 (by first | omega | (simp only [D4, B0, szR] at *; omega))) ?_
  refine A1 rfl (P8 rfl (A0 rfl) B4) ?_
  refine A1 rfl (L0 0 rfl G5 I4 (A0 rfl) rfl (A0 rfl) (by omega) (by simp only [I6, A6, G3, J9, List.length_drop]; omega)) ?_
  refine A1 rfl (S0 0 rfl F7 rfl F8 (A0 rfl) rfl rfl (O9 (by simp [G3]))) ?_
  refine O2 0 rfl rfl rfl (A0 rfl) (A0 rfl) (c4 _) rfl F8 (by simp [G3]) rfl ?_
  refine A4 (A2 ?_)
  refine A5 rfl ?_
  refine A1 rfl (F1 rfl (A0 rfl) B4 (by first | omega | (simp only [D4, B0, szR] at *; omega))) ?_
  refine B3 rfl ?_
  refine A4 (A2 ?_)
  refine A5 rfl ?_
  refine A1 rfl (F1 rfl (A0 rfl) B4 (by first | omega | (simp only [D4, B0, szR] at *; omega))) ?_
  refine B3 rfl ?_
  refine A4 ?_
  refine J2 i c (i + 1) (c + 1 + 1 + 1) ?_ ?_ (K7 (by exact congrArg (fun z => [Own.arr v 127 3 z]) (j0 (by first | (rw [← hinv.2]; done) | (rw [← hinv.2]; rfl)))) ⟨rfl, rfl, rfl, rfl, trivial⟩)
  ·exact ⟨by omega, by omega⟩
  omega
 intro h9
 have k9 := of_decide_eq_false h9; try simp only [A6] at k9
 simp only [I6, A6, G3, List.length_drop] at k9
 have hge : i = l.length := by omega
 subst hge
 simp only [List.drop_length, List.map_nil, List.append_nil]
 refine F5 ?_
 refine A3 (A2 ?_)
 refine A5 rfl ?_
 refine B3 rfl ?_
 refine A4 ?_
 refine B8 ?_
 exact V4 [0] () (trivial) rfl (by rfl) (U3 rfl (B7 rfl (by exact congrArg AV.int (by omega))))
theorem Ad3 (l : List TTold) (hs : l.length ≤ 1048576) : GSpec Tryz.prog 49 [AV.list 3 (l.map TTold.cs)] [] (fun _ : Value => True) (fun v => [.arr v 144 3 (l.map TTold.cs)]) (fun v => AV.is v) := by
 have hsl : l.length ≤ 1048576 := hs
 refine K0 Tryz.func49 rfl Tryz.ntmps49 rfl ?_
 refine A3 (A2 ?_)
 refine A1 rfl (A9 rfl S2) ?_
 refine A4 (A3 (A2 ?_))
 refine A5 rfl ?_
 refine A1 rfl (E9 rfl Q9 (A0 rfl)) ?_
 refine V7 (by' := 24) rfl rfl rfl rfl J0 Tryz.type144 rfl rfl rfl rfl rfl rfl (A0 rfl) (A0 rfl) (by simp only [A6]; omega) (by simp only [A6]; omega) ?_
 intro v7
 refine B3 rfl ?_
 refine A4 (A3 (A3 (A2 ?_)))
 refine A1 rfl (A9 rfl B4) ?_
 refine A4 (C4 ?_)
 refine H2 [(0, _), (2, _), (3, _)] _ (fun (i : Nat) => i ≤ l.length) (fun (i : Nat) => [.arr v7 144 3 ((l.take i).map TTold.cs ++ List.replicate (l.length - i) [AV.int 0, AV.bool false, AV.int 0])]) (fun (i : Nat) => [(4, AV.int i)]) (fun (i : Nat) => l.length - i) (0) ?_ (K7 (by simp only [A6]; rfl) ⟨rfl, rfl, rfl, rfl, trivial⟩) ?_
 ·exact Nat.zero_le _
 intro i hinv
 refine A3 (A3 (A2 ?_))
 refine A5 rfl ?_
 refine A5 rfl ?_
 refine A1 rfl (E9 rfl Q9 (A0 rfl)) ?_
 refine A1 rfl (G0 rfl (A0 rfl) (A0 rfl)) ?_
 refine A4 ?_
 refine C0 (A0 rfl) ?_ ?_
 ·intro h11
  have k11 := of_decide_eq_true h11; try simp only [A6] at k11
  have hlt : i < l.length := by omega
  obtain ⟨x, hx⟩ := get_some hlt
  have hsx : x.size ≤ 1048576 := Nat.zero_le _
  refine C1 (A3 (C4 (A2 ?_)))
  refine A5 rfl ?_
  refine A5 rfl ?_
  refine A5 rfl ?_
  refine A5 rfl ?_
  refine A1 rfl (O7 rfl Q9 Tryz.sizeOf146 (A0 rfl) (A0 rfl) (by omega) (by simp only [Int.toNat_natCast, List.getElem?_map, hx, Option.map_some]; try rfl)) ?_
  refine A1 rfl (H8 rfl (A0 rfl) Tryz.isAgg146 Tryz.sizeOf146) ?_
  refine A1 rfl (E1 rfl Tryz.call90 rfl (AF6 _ (by first | assumption | omega | (simp only [] at *; omega))) (A8 (A0 rfl) C7)) ?_
  refine A1 rfl (L0 0 rfl J0 K3 (A0 rfl) rfl (A0 rfl) (by omega) (by rw [P6 hinv]; omega)) ?_
  refine R8 0 rfl rfl rfl (A0 rfl) (A0 rfl) (J4 _) rfl K3 rfl (by rw [P6 hinv]; omega) ?_
  refine A4 (A2 ?_)
  refine A5 rfl ?_
  refine A1 rfl (F1 rfl (A0 rfl) B4 (by first | omega | (simp only [D4, B0, szR] at *; omega))) ?_
  refine B3 rfl ?_
  refine A4 ?_
  refine I0 i (i + 1) ?_ ?_ (K7 (by exact congrArg (fun z => [Own.arr v7 144 3 z]) (U9 hx)) ⟨rfl, rfl, rfl, rfl, trivial⟩)
  ·omega
  omega
 intro h11
 have k11 := of_decide_eq_false h11; try simp only [A6] at k11
 have hge : l.length ≤ i := by omega
 rw [V0 hge]
 refine F5 ?_
 refine A3 (A2 ?_)
 refine A5 rfl ?_
 refine B3 rfl ?_
 refine A4 ?_
 refine B8 ?_
 exact V4 [0] v7 (trivial) rfl (by rfl) (U3 rfl (B7 rfl (by first | rfl | (refine congrArg AV.bool ?_; simp_all; done))))
theorem AO1 (v : Value) (l : List TTold) (k : Int) (h : 0 ≤ k ∧ k + 3 * l.length ≤ 4611686018427387904) : GSpec Tryz.prog 60 [AV.is v, AV.int k] [.arr v 144 3 (l.map TTold.cs)] (fun _ : Unit => True) (fun _ => [.arr v 144 3 ((marks mkTold 3 l.length k).map TTold.cs)]) (fun _ => AV.int (k + 3 * l.length)) := by
 refine K0 Tryz.func60 rfl Tryz.ntmps60 rfl ?_
 refine A3 (A2 ?_)
 refine A1 rfl (A9 rfl B4) ?_
 refine A4 (A3 (A3 (A2 ?_)))
 refine A1 rfl (A9 rfl B4) ?_
 refine A4 (C4 ?_)
 refine J8 [(0, _), (4, _)] _ (fun (i : Nat) (c : Int) => i ≤ l.length ∧ c = k + 3 * i) (fun (i : Nat) (c : Int) => [.arr v 144 3 ((marks mkTold 3 i k).map TTold.cs ++ (l.drop i).map TTold.cs)]) (fun (i : Nat) (c : Int) => [(1, AV.int c), (5, AV.int i)]) (fun (i : Nat) (c : Int) => l.length - i) (0) (k) ?_ (K7 (by simp only [marks, List.map_nil, List.nil_append, List.drop_zero]; rfl) ⟨rfl, rfl, rfl, rfl, trivial⟩) ?_
 ·exact ⟨Nat.zero_le _, by simp⟩
 intro i c hinv
 refine A3 (A3 (A2 ?_))
 refine A5 rfl ?_
 refine A5 rfl ?_
 refine A1 rfl (V3 0 rfl J0 (A0 rfl) rfl) ?_
 refine A1 rfl (G0 rfl (A0 rfl) (A0 rfl)) ?_
 refine A4 ?_
 refine C0 (A0 rfl) ?_ ?_
 ·intro h9
  have k9 := of_decide_eq_true h9; try simp only [A6] at k9
  simp only [I6, A6, G3, List.length_drop] at k9
  have hlt : i < l.length := by omega
  obtain ⟨x, hx⟩ := get_some hlt
  rw [o9 hx]
  refine C1 (A3 (C4 (A3 (A2 ?_))))
  refine A5 rfl ?_
  refine A5 rfl ?_
  refine A5 rfl ?_
  refine A1 rfl (L0 0 rfl J0 K3 (A0 rfl) rfl (A0 rfl) (by omega) (by simp only [I6, A6, G3, J9, List.length_drop]; omega)) ?_
  refine A1 rfl (S0 0 rfl G8 rfl B9 (A0 rfl) rfl rfl (O9 (by simp [G3]))) ?_
  refine O2 0 rfl rfl rfl (A0 rfl) (A0 rfl) (P9 _ _) rfl B9 (by simp [G3]) rfl ?_
  refine A4 (A3 (A2 ?_))
  refine A5 rfl ?_
  refine A1 rfl (F1 rfl (A0 rfl) B4 (by first | omega | (simp only [D4, B0, szR] at *; omega))) ?_
  refine B3 rfl ?_
  refine A4 (A3 (A2 ?_))
  refine A5 rfl ?_
  refine A5 rfl ?_
  refine A5 rfl ?_
  refine A1 rfl (AD7 rfl (A0 rfl) B4 (by first | omega | (simp only [D4, B0, szR] at *; omega))) ?_
  refine A1 rfl (P8 rfl (A0 rfl) B4) ?_
  refine A1 rfl (L0 0 rfl J0 K3 (A0 rfl) rfl (A0 rfl) (by omega) (by simp only [I6, A6, G3, J9, List.length_drop]; omega)) ?_
  refine A1 rfl (S0 0 rfl G8 rfl F8 (A0 rfl) rfl rfl (O9 (by simp [G3]))) ?_
  refine O2 0 rfl rfl rfl (A0 rfl) (A0 rfl) (c4 _) rfl F8 (by simp [G3]) rfl ?_
  refine A4 (A3 (A2 ?_))
  refine A5 rfl ?_
  refine A1 rfl (F1 rfl (A0 rfl) B4 (by first | omega | (simp only [D4, B0, szR] at *; omega))) ?_
  refine B3 rfl ?_
  refine A4 (A3 (A2 ?_))
  refine A5 rfl ?_
  refine A5 rfl ?_
  refine A5 rfl ?_
  refine A1 rfl (L0 0 rfl J0 K3 (A0 rfl) rfl (A0 rfl) (by omega) (by simp only [I6, A6, G3, J9, List.length_drop]; omega)) ?_
  refine A1 rfl (S0 0 rfl G8 rfl B9 (A0 rfl) rfl rfl (O9 (by simp [G3]))) ?_
  refine O2 0 rfl rfl rfl (A0 rfl) (A0 rfl) (P9 _ _) rfl B9 (by simp [G3]) rfl ?_
  refine A4 (A2 ?_)
  refine A5 rfl ?_
  refine A1 rfl (F1 rfl (A0 rfl) B4 (by first | omega | (simp only [D4, B0, szR] at *; omega))) ?_
  refine B3 rfl ?_
  refine A4 (A2 ?_)
  refine A5 rfl ?_
  refine A1 rfl (F1 rfl (A0 rfl) B4 (by first | omega | (simp only [D4, B0, szR] at *; omega))) ?_
  refine B3 rfl ?_
  refine A4 ?_
  refine J2 i c (i + 1) (c + 1 + 1 + 1) ?_ ?_ (K7 (by exact congrArg (fun z => [Own.arr v 144 3 z]) (j0 (by first | (rw [← hinv.2]; done) | (rw [← hinv.2]; rfl)))) ⟨rfl, rfl, rfl, rfl, trivial⟩)
  ·exact ⟨by omega, by omega⟩
  omega
 intro h9
 have k9 := of_decide_eq_false h9; try simp only [A6] at k9
 simp only [I6, A6, G3, List.length_drop] at k9
 have hge : i = l.length := by omega
 subst hge
 simp only [List.drop_length, List.map_nil, List.append_nil]
 refine F5 ?_
 refine A3 (A2 ?_)
 refine A5 rfl ?_
 refine B3 rfl ?_
 refine A4 ?_
 refine B8 ?_
 exact V4 [0] () (trivial) rfl (by rfl) (U3 rfl (B7 rfl (by exact congrArg AV.int (by omega))))
theorem AD1 (v : Value) (l : List TFeedItem) (k : Int) (h : 0 ≤ k ∧ k + 5 * l.length ≤ 4611686018427387904) : GSpec Tryz.prog 21 [AV.is v, AV.int k] [.arr v 63 5 (l.map TFeedItem.cs)] (fun _ : Unit => True) (fun _ => [.arr v 63 5 ((marks mkFeedItem 5 l.length k).map TFeedItem.cs)]) (fun _ => AV.int (k + 5 * l.length)) := by
 refine K0 Tryz.func21 rfl Tryz.ntmps21 rfl ?_
 refine A3 (A2 ?_)
 refine A1 rfl (A9 rfl B4) ?_
 refine A4 (A3 (A3 (A2 ?_)))
 refine A1 rfl (A9 rfl B4) ?_
 refine A4 (C4 ?_)
 refine J8 [(0, _), (4, _)] _ (fun (i : Nat) (c : Int) => i ≤ l.length ∧ c = k + 5 * i) (fun (i : Nat) (c : Int) => [.arr v 63 5 ((marks mkFeedItem 5 i k).map TFeedItem.cs ++ (l.drop i).map TFeedItem.cs)]) (fun (i : Nat) (c : Int) => [(1, AV.int c), (5, AV.int i)]) (fun (i : Nat) (c : Int) => l.length - i) (0) (k) ?_ (K7 (by simp only [marks, List.map_nil, List.nil_append, List.drop_zero]; rfl) ⟨rfl, rfl, rfl, rfl, trivial⟩) ?_
 ·exact ⟨Nat.zero_le _, by simp⟩
 intro i c hinv
 refine A3 (A3 (A2 ?_))
 refine A5 rfl ?_
 refine A5 rfl ?_
 refine A1 rfl (V3 0 rfl F9 (A0 rfl) rfl) ?_
 refine A1 rfl (G0 rfl (A0 rfl) (A0 rfl)) ?_
 refine A4 ?_
 refine C0 (A0 rfl) ?_ ?_
 ·intro h9
  have k9 := of_decide_eq_true h9; try simp only [A6] at k9
  simp only [I6, A6, G3, List.length_drop] at k9
  have hlt : i < l.length := by omega
  obtain ⟨x, hx⟩ := get_some hlt
  rw [o9 hx]
  refine C1 (A3 (C4 (A3 (A2 ?_))))
  refine A5 rfl ?_
  refine A5 rfl ?_
  refine A5 rfl ?_
  refine A1 rfl (L0 0 rfl F9 I2 (A0 rfl) rfl (A0 rfl) (by omega) (by simp only [I6, A6, G3, J9, List.length_drop]; omega)) ?_
  refine A1 rfl (S0 0 rfl G4 rfl B9 (A0 rfl) rfl rfl (O9 (by simp [G3]))) ?_
  refine O2 0 rfl rfl rfl (A0 rfl) (A0 rfl) (P9 _ _) rfl B9 (by simp [G3]) rfl ?_
  refine A4 (A3 (A2 ?_))
  refine A5 rfl ?_
  refine A1 rfl (F1 rfl (A0 rfl) B4 (by first | omega | (simp only [D4, B0, szR] at *; omega))) ?_
  refine B3 rfl ?_
  refine A4 (A3 (A2 ?_))
  refine A5 rfl ?_
  refine A5 rfl ?_
  refine A5 rfl ?_
  refine A1 rfl (L0 0 rfl F9 I2 (A0 rfl) rfl (A0 rfl) (by omega) (by simp only [I6, A6, G3, J9, List.length_drop]; omega)) ?_
  refine A1 rfl (S0 0 rfl G4 rfl B9 (A0 rfl) rfl rfl (O9 (by simp [G3]))) ?_
  refine O2 0 rfl rfl rfl (A0 rfl) (A0 rfl) (P9 _ _) rfl B9 (by simp [G3]) rfl ?_
  refine A4 (A3 (A2 ?_))
  refine A5 rfl ?_
  refine A1 rfl (F1 rfl (A0 rfl) B4 (by first | omega | (simp only [D4, B0, szR] at *; omega))) ?_
  refine B3 rfl ?_
  refine A4 (A3 (A2 ?_))
  refine A5 rfl ?_
  refine A5 rfl ?_
  refine A5 rfl ?_
  refine A1 rfl (E1 rfl Tryz.call61 rfl (S1 _ (by omega)) (A8 (A0 rfl) C7)) ?_
  refine A1 rfl (L0 0 rfl F9 I2 (A0 rfl) rfl (A0 rfl) (by omega) (by simp only [I6, A6, G3, J9, List.length_drop]; omega)) ?_
  refine A1 rfl (S0 0 rfl G4 rfl C6 (A0 rfl) rfl rfl (O9 (by simp [G3]))) ?_
  refine O2 0 rfl rfl rfl (A0 rfl) (A0 rfl) (Q7 _) rfl C6 (by simp [G3]) rfl ?_
  refine A4 (A3 (A2 ?_))
  refine A5 rfl ?_
  refine A1 rfl (F1 rfl (A0 rfl) B4 (by first | omega | (simp only [D4, B0, szR] at *; omega))) ?_
  refine B3 rfl ?_
  refine A4 (A3 (A2 ?_))
  refine A5 rfl ?_
  refine A5 rfl ?_
  refine A5 rfl ?_
  refine A1 rfl (E1 rfl Tryz.call61 rfl (S1 _ (by omega)) (A8 (A0 rfl) C7)) ?_
  refine A1 rfl (L0 0 rfl F9 I2 (A0 rfl) rfl (A0 rfl) (by omega) (by simp only [I6, A6, G3, J9, List.length_drop]; omega)) ?_
  refine A1 rfl (S0 0 rfl G4 rfl C6 (A0 rfl) rfl rfl (O9 (by simp [G3]))) ?_
  refine O2 0 rfl rfl rfl (A0 rfl) (A0 rfl) (Q7 _) rfl C6 (by simp [G3]) rfl ?_
  refine A4 (A3 (A2 ?_))
  refine A5 rfl ?_
  refine A1 rfl (F1 rfl (A0 rfl) B4 (by first | omega | (simp only [D4, B0, szR] at *; omega))) ?_
  refine B3 rfl ?_
  refine A4 (A3 (A2 ?_))
  refine A5 rfl ?_
  refine A5 rfl ?_
  refine A5 rfl ?_
  refine A1 rfl (AD7 rfl (A0 rfl) B4 (by first | omega | (simp only [D4, B0, szR] at *; omega))) ?_
  refine A1 rfl (P8 rfl (A0 rfl) B4) ?_
  refine A1 rfl (L0 0 rfl F9 I2 (A0 rfl) rfl (A0 rfl) (by omega) (by simp only [I6, A6, G3, J9, List.length_drop]; omega)) ?_
  refine A1 rfl (S0 0 rfl G4 rfl F8 (A0 rfl) rfl rfl (O9 (by simp [G3]))) ?_
  refine O2 0 rfl rfl rfl (A0 rfl) (A0 rfl) (c4 _) rfl F8 (by simp [G3]) rfl ?_
  refine A4 (A2 ?_)
  refine A5 rfl ?_
  refine A1 rfl (F1 rfl (A0 rfl) B4 (by first | omega | (simp only [D4, B0, szR] at *; omega))) ?_
  refine B3 rfl ?_
  refine A4 (A2 ?_)
  refine A5 rfl ?_
  refine A1 rfl (F1 rfl (A0 rfl) B4 (by first | omega | (simp only [D4, B0, szR] at *; omega))) ?_
  refine B3 rfl ?_
  refine A4 ?_
  refine J2 i c (i + 1) (c + 1 + 1 + 1 + 1 + 1) ?_ ?_ (K7 (by exact congrArg (fun z => [Own.arr v 63 5 z]) (j0 (by first | (rw [← hinv.2]; done) | (rw [← hinv.2]; rfl)))) ⟨rfl, rfl, rfl, rfl, trivial⟩)
  ·exact ⟨by omega, by omega⟩
  omega
 intro h9
 have k9 := of_decide_eq_false h9; try simp only [A6] at k9
 simp only [I6, A6, G3, List.length_drop] at k9
 have hge : i = l.length := by omega
 subst hge
 simp only [List.drop_length, List.map_nil, List.append_nil]
 refine F5 ?_
 refine A3 (A2 ?_)
 refine A5 rfl ?_
 refine B3 rfl ?_
 refine A4 ?_
 refine B8 ?_
 exact V4 [0] () (trivial) rfl (by rfl) (U3 rfl (B7 rfl (by exact congrArg AV.int (by omega))))
theorem n0 (m : Nat) (k : Int) (h : 0 ≤ k ∧ k + 5 * m ≤ 4611686018427387904) : FSpec Tryz.prog 22 [AV.list 5 ((marks mkFeedItem 5 m k).map TFeedItem.cs), AV.int k] (AV.int (k + 5 * m)) := by
 refine D3 Tryz.func22 rfl Tryz.ntmps22 rfl ?_
 refine A3 (A2 ?_)
 refine A1 rfl (A9 rfl B4) ?_
 refine A4 (A3 (A3 (A2 ?_)))
 refine A1 rfl (A9 rfl B4) ?_
 refine A4 (C4 ?_)
 refine J8 [(0, _)] _ (fun (i : Nat) (c : Int) => i ≤ m ∧ c = k + 5 * i) (fun (i : Nat) (c : Int) => []) (fun (i : Nat) (c : Int) => [(1, AV.int c), (5, AV.int i)]) (fun (i : Nat) (c : Int) => m - i) (0) (k) ?_ (H1 ⟨rfl, rfl, rfl, trivial⟩) ?_
 ·exact ⟨Nat.zero_le _, by simp⟩
 intro i c hinv
 refine A3 (A3 (A2 ?_))
 refine A5 rfl ?_
 refine A5 rfl ?_
 refine A1 rfl (E9 rfl F9 (A0 rfl)) ?_
 refine A1 rfl (G0 rfl (A0 rfl) (A0 rfl)) ?_
 refine A4 ?_
 refine C0 (A0 rfl) ?_ ?_
 ·intro h9
  have k9 := of_decide_eq_true h9; try simp only [A6] at k9
  simp only [A6, G3] at k9
  have hlt : i < m := by omega
  have hx := AQ5 mkFeedItem 5 m i k hlt
  rw [← hinv.2] at hx
  refine C1 (A3 (C4 (A3 (A3 (A2 ?_)))))
  refine A5 rfl ?_
  refine A5 rfl ?_
  refine A1 rfl (I9 rfl F9 I2 (A0 rfl) (A0 rfl) hx (by first | omega | (simp only [D4, B0, szR] at *; omega))) ?_
  refine A1 rfl (Q2 rfl G4 rfl B9 (A0 rfl) rfl) ?_
  refine A1 rfl (J5 rfl (A0 rfl) D2 rfl) ?_
  refine A5 rfl ?_
  refine A1 rfl (R6 rfl (A0 rfl) (A0 rfl)) ?_
  refine A4 ?_
  refine C0 (A0 rfl) ?_ ?_
  ·intro h18
   have k18 := N6 h18; try simp only [A6] at k18
   exfalso; simp [mkFeedItem, m3] at h18
  intro h18
  have k18 := J1 h18; try simp only [A6] at k18
  refine C1 (A3 (A2 ?_))
  refine A5 rfl ?_
  refine A1 rfl (F1 rfl (A0 rfl) B4 (by first | omega | (simp only [D4, B0, szR] at *; omega))) ?_
  refine B3 rfl ?_
  refine A4 (A3 (A3 (A2 ?_)))
  refine A5 rfl ?_
  refine A5 rfl ?_
  refine A1 rfl (I9 rfl F9 I2 (A0 rfl) (A0 rfl) hx (by first | omega | (simp only [D4, B0, szR] at *; omega))) ?_
  refine A1 rfl (Q2 rfl G4 rfl B9 (A0 rfl) rfl) ?_
  refine A1 rfl (J5 rfl (A0 rfl) D2 rfl) ?_
  refine A5 rfl ?_
  refine A1 rfl (R6 rfl (A0 rfl) (A0 rfl)) ?_
  refine A4 ?_
  refine C0 (A0 rfl) ?_ ?_
  ·intro h27
   have k27 := N6 h27; try simp only [A6] at k27
   exfalso; simp [mkFeedItem, m3] at h27
  intro h27
  have k27 := J1 h27; try simp only [A6] at k27
  refine C1 (A3 (A2 ?_))
  refine A5 rfl ?_
  refine A1 rfl (F1 rfl (A0 rfl) B4 (by first | omega | (simp only [D4, B0, szR] at *; omega))) ?_
  refine B3 rfl ?_
  refine A4 (A3 (A3 ?_))
  refine H7 (by kernel_rfl) (by kernel_rfl) rfl ?_
  refine B5 rfl rfl (C2 rfl (A0 rfl)) ?_
  refine B5 rfl rfl (C2 rfl (A0 rfl)) ?_
  refine B5 rfl rfl (I9 rfl F9 I2 (A0 rfl) (A0 rfl) hx (by first | omega | (simp only [D4, B0, szR] at *; omega))) ?_
  refine B5 rfl rfl (Q2 rfl G4 rfl C6 (A0 rfl) rfl) ?_
  refine B5 rfl rfl (J5 rfl (A0 rfl) E5 rfl) ?_
  refine B5 rfl rfl (C2 rfl (A0 rfl)) ?_
  refine B5 rfl rfl (E1 rfl Tryz.call61 rfl (S1 _ (by omega)) (A8 (A0 rfl) C7)) ?_
  refine B5 rfl rfl (Y6 rfl (A0 rfl) (A0 rfl)) ?_
  refine O5 ?_
  refine C0 (A0 rfl) ?_ ?_
  ·intro h37
   exfalso; simp [mkFeedItem, m3] at h37
  intro h37
  refine C1 (A3 (A2 ?_))
  refine A5 rfl ?_
  refine A1 rfl (F1 rfl (A0 rfl) B4 (by first | omega | (simp only [D4, B0, szR] at *; omega))) ?_
  refine B3 rfl ?_
  refine A4 (A3 (A3 ?_))
  refine H7 (by kernel_rfl) (by kernel_rfl) rfl ?_
  refine B5 rfl rfl (C2 rfl (A0 rfl)) ?_
  refine B5 rfl rfl (C2 rfl (A0 rfl)) ?_
  refine B5 rfl rfl (I9 rfl F9 I2 (A0 rfl) (A0 rfl) hx (by first | omega | (simp only [D4, B0, szR] at *; omega))) ?_
  refine B5 rfl rfl (Q2 rfl G4 rfl C6 (A0 rfl) rfl) ?_
  refine B5 rfl rfl (J5 rfl (A0 rfl) E5 rfl) ?_
  refine B5 rfl rfl (C2 rfl (A0 rfl)) ?_
  refine B5 rfl rfl (E1 rfl Tryz.call61 rfl (S1 _ (by omega)) (A8 (A0 rfl) C7)) ?_
  refine B5 rfl rfl (Y6 rfl (A0 rfl) (A0 rfl)) ?_
  refine O5 ?_
  refine C0 (A0 rfl) ?_ ?_
  ·intro h47
   exfalso; simp [mkFeedItem, m3] at h47
  intro h47
  refine C1 (A3 (A2 ?_))
  refine A5 rfl ?_
  refine A1 rfl (F1 rfl (A0 rfl) B4 (by first | omega | (simp only [D4, B0, szR] at *; omega))) ?_
  refine B3 rfl ?_
  refine A4 (A3 (A3 (A2 ?_)))
  refine A5 rfl ?_
  refine A5 rfl ?_
  refine A1 rfl (I9 rfl F9 I2 (A0 rfl) (A0 rfl) hx (by first | omega | (simp only [D4, B0, szR] at *; omega))) ?_
  refine A1 rfl (Q2 rfl G4 rfl F8 (A0 rfl) rfl) ?_
  refine A1 rfl (J5 rfl (A0 rfl) I5 rfl) ?_
  refine A5 rfl ?_
  refine A1 rfl (AD7 rfl (A0 rfl) B4 (by first | omega | (simp only [D4, B0, szR] at *; omega))) ?_
  refine A1 rfl (P8 rfl (A0 rfl) B4) ?_
  refine A1 rfl (m1 rfl N5 (A0 rfl) (A0 rfl)) ?_
  refine A4 ?_
  refine C0 (A0 rfl) ?_ ?_
  ·intro h58
   exfalso; simp [mkFeedItem, m3] at h58
  intro h58
  refine C1 (A2 ?_)
  refine A5 rfl ?_
  refine A1 rfl (F1 rfl (A0 rfl) B4 (by first | omega | (simp only [D4, B0, szR] at *; omega))) ?_
  refine B3 rfl ?_
  refine A4 (A2 ?_)
  refine A5 rfl ?_
  refine A1 rfl (F1 rfl (A0 rfl) B4 (by first | omega | (simp only [D4, B0, szR] at *; omega))) ?_
  refine B3 rfl ?_
  refine A4 ?_
  refine J2 i c (i + 1) (c + 1 + 1 + 1 + 1 + 1) ?_ ?_ (H1 ⟨rfl, rfl, rfl, trivial⟩)
  ·exact ⟨by omega, by omega⟩
  omega
 intro h9
 have k9 := of_decide_eq_false h9; try simp only [A6] at k9
 simp only [A6, G3] at k9
 refine F5 ?_
 refine A3 (A2 ?_)
 refine A5 rfl ?_
 refine B3 rfl ?_
 refine A4 ?_
 refine B8 ?_
 exact E4 rfl (B7 rfl (by exact congrArg AV.int (by omega)))
def TRec.ow (c : TRec) (x : Value × Value) : List Own := [.arr x.1 9 1 (c.Reads.map (fun x => [AV.str x])), .arr x.2 101 3 (c.Writes.map TWrite.cs)]
def TPlaces.ow (c : TPlaces) (x : Value × Value) : List Own := [.arr x.1 9 1 (c.Cuts.map (fun x => [AV.str x])), .arr x.2 3 1 (c.Groups.map (fun x => [AV.int x]))]
def TMove.ow (c : TMove) (x : Value × Value) : List Own := [.arr x.1 101 3 (c.From.map TWrite.cs), .arr x.2 101 3 (c.To.map TWrite.cs)]
end Go.Proofs.YtkegepoihkhihaaGreat

namespace Go.AV
section
variable {T X : Type} {cs : T → List AV} {ocs : T → X → List AV} {ow : T → X → List Own}
end
end Go.AV
namespace Go.Proofs.YtkegepoihkhihaaGreat
open Go Go.AV Go.M
attribute [local irreducible] OpW OpA OpS AWP FSpec ESpec GSpec OpE RetOk RetOkG RvDen Le Ev GuardIs SrcIs
def TCell.ow (c : TCell) (x : Value) : List Own := [.arr x 127 3 (c.Vers.map TVer.cs)]
theorem TCell.lcM {own : List Own} (c : TCell) (x : Value) (h : ∀ o ∈ TCell.ow c x, o ∈ own) : LendC own (TCell.ocs c x) c.cs := T2 f8 (T2 (i6 (h _ (H4 (i := 0) rfl)) W8) u5)
end Go.Proofs.YtkegepoihkhihaaGreat

namespace Go.Proofs.YtkegepoihkhihaaGreat
open Go Go.AV Go.M
attribute [local irreducible] OpW OpA OpS AWP FSpec ESpec GSpec OpE RetOk RetOkG RvDen Le Ev GuardIs SrcIs
end Go.Proofs.YtkegepoihkhihaaGreat

set_option maxHeartbeats 4000000
namespace Go.Proofs.YtkegepoihkhihaaGreat
open Go Go.AV Go.M
attribute [local irreducible] OpW OpA OpS AWP FSpec ESpec GSpec OpE RetOk RetOkG RvDen Le Ev GuardIs SrcIs
end Go.Proofs.YtkegepoihkhihaaGreat

namespace Go.AV
section
variable {P : Program} {G : Nat → Prop} {n : Nat} {own : List Own} {env : List (Nat × AV)} {fn : Func}
theorem Ao7 {sel : List Own} {cs : List AV} {sz : Nat} (j : Nat) (h : cs[j]? = some AV.nils) : LendC sel cs (cs.set j (AV.list sz [])) := ⟨by rw [List.length_set], fun i x y hx hy => by
  by_cases e : j = i
  · subst e
    rw [List.getElem?_set_self (List.getElem?_eq_some_iff.1 h).1] at hy
    rw [h] at hx
    injection hx with hx; injection hy with hy; subst hx; subst hy
    exact lt_nils
  · rw [List.getElem?_set_ne e, hx] at hy
    injection hy with hy; subst hy; exact f8⟩
theorem AG0 {y : AV} (i j sz : Nat) {b : Nat} {t : TypeId} {cs : List AV} (hi : own[i]? = some (.box b t cs)) (hj : cs[j]? = some AV.nils)
    (k : RetOk P (fun _ => False) n fn ⟨own.set i (.box b t (cs.set j (AV.list sz []))), env⟩ y) : RetOk P (fun _ => False) n fn ⟨own, env⟩ y := fun w0 R0 R a w hs => by
  have hle : Le (fun _ => False) n ⟨own, env⟩ ⟨own.set i (.box b t (cs.set j (AV.list sz []))), env⟩ := le_sealO [] i (.box b t (cs.set j (AV.list sz []))) rfl hi ⟨rfl, rfl, Ao7 j hj⟩ Am7
  obtain ⟨R1, h1, h2⟩ := hle w0 R0 R a w hs
  obtain ⟨v, R2, h3, h4, h5, h6⟩ := k w0 R0 R1 a w h2
  exact ⟨v, R2, h3, h4, h1.trans h5, h6⟩
end
end Go.AV

set_option maxHeartbeats 1000000
namespace Go.M
open Go.AV
def THeld.ocs (h : THeld) (x : Value × Value) : List AV := [AV.int h.Txn, AV.int h.Time, AV.int h.Lead, AV.is x.1, AV.is x.2]
def TState.ocs (s : TState) (x : Value × Value) : List AV := [AV.int s.Floor, AV.list 2 (s.Cells.map TCell.cs), AV.is x.1, AV.is x.2]
end Go.M
namespace Go.Proofs.YtkegepoihkhihaaGreat
open Go Go.AV Go.M
def THeld.ow (h : THeld) (x : Value × Value) : List Own := [.arr x.1 9 1 (h.Reads.map fun k => [AV.str k]), .arr x.2 101 3 (h.Writes.map TWrite.cs)]
def TState.ow (s : TState) (x : Value × Value) : List Own := [.arr x.1 141 5 (s.Held.map THeld.cs), .arr x.2 144 3 (s.Told.map TTold.cs)]
attribute [local irreducible] OpW OpA OpS AWP FSpec ESpec GSpec OpE RetOk RetOkG RvDen Le Ev GuardIs SrcIs Int.tmod Int.tdiv IntKind.wrap
end Go.Proofs.YtkegepoihkhihaaGreat

namespace Go.M
open Go.AV
def settled (s : TState) : Int := s.Held.foldl (fun o h => min o (h.Time - 1)) s.Floor
structure Keeps (s s' : TState) : Prop where
  floor : s.Floor ≤ s'.Floor
  told : ∀ t ∈ s.Told, t ∈ s'.Told
  tlen : s.Told.length ≤ s'.Told.length
  settled : settled s ≤ settled s'
  cells : ∀ a, a ≤ M.settled s → cellsAt s'.Cells a = cellsAt s.Cells a
theorem Keeps.refl (s : TState) : Keeps s s := ⟨Int.le_refl _, fun _ h => h, Nat.le_refl _, Int.le_refl _, fun _ _ => rfl⟩
theorem Keeps.trans {a b c : TState} (h : Keeps a b) (k : Keeps b c) : Keeps a c :=
  ⟨Int.le_trans h.floor k.floor, fun t ht => k.told t (h.told t ht), Nat.le_trans h.tlen k.tlen, Int.le_trans h.settled k.settled, fun x hx => (k.cells x (Int.le_trans hx h.settled)).trans (h.cells x hx)⟩
end Go.M

namespace Go.M
open Go.AV
theorem AT4 {r : TRec} (h : goodRec r = true) : r.size ≤ 400 := by
  have g := goodR h
  have h1 : sizeL (fun x : Str => x.length) r.Reads ≤ r.Reads.length * 13 := AC6 fun x hx => AK0 (g.reads.2 x hx)
  have h2 : sizeL TWrite.size r.Writes ≤ r.Writes.length * 37 := AC6 (f := TWrite.size) fun x hx => by
    have := g.writes.2 x hx
    have k1 := AK0 this.1
    have k2 := Ai6 this.2.1
    show x.Key.length + x.Val.length ≤ 36
    omega
  have h3 : r.size = sizeL (fun x : Str => x.length) r.Reads + sizeL TWrite.size r.Writes := rfl
  have := g.reads.1
  have := g.writes.1
  omega
def zHeld : THeld := ⟨0, 0, 0, [], []⟩
end Go.M
namespace Go.Proofs.YtkegepoihkhihaaGreat
open Go Go.AV Go.M
attribute [local irreducible] OpW OpA OpS AWP FSpec ESpec GSpec OpE RetOk RetOkG RvDen Le Ev GuardIs SrcIs Int.tmod Int.tdiv IntKind.wrap
end Go.Proofs.YtkegepoihkhihaaGreat

namespace Go.M
open Go.AV
end Go.M
namespace Go.Proofs.YtkegepoihkhihaaGreat
open Go Go.AV Go.M
attribute [local irreducible] OpW OpA OpS AWP FSpec ESpec GSpec OpE RetOk RetOkG RvDen Le Ev GuardIs SrcIs Int.tmod Int.tdiv IntKind.wrap
end Go.Proofs.YtkegepoihkhihaaGreat
