/- Texts of the claim, part 4. -/
import Derived.Sort.OwnSortedInts
import Derived.Sort.EncStr
import Derived.Shelf.GgSortFunc.RowK
import Derived.Shelf.Sort.Plain
import Derived.Shelf.Slices.In.SortNone
import Derived.Test.YtkegepoihkhihaaGreatProg
import Derived.Test.YtkegepoihkhihaaGreatZRebuild3

set_option linter.unusedVariables false
set_option linter.unusedSimpArgs false
set_option maxRecDepth 100000
set_option maxHeartbeats 1000000
namespace Go.Proofs.YtkegepoihkhihaaGreat
open Go Go.AV Go.M
attribute [local irreducible] OpW OpA OpS AWP FSpec ESpec GSpec OpE RetOk RetOkG RvDen Le Ev GuardIs SrcIs Int.tmod Int.tdiv IntKind.wrap
theorem w4 (n : Int) : FSpec Tryz.prog 93 [AV.int n] (AV.bool (isTxnR n)) := by
 refine E9 Tryz.func93 rfl Tryz.ntmps93 rfl ?_
 refine A3 (A2 ?_)
 refine A1 rfl (B7 rfl F8) ?_
 refine A4 (A3 (A2 ?_))
 refine A5 rfl ?_
 refine A1 rfl (E8 rfl Tryz.call82 rfl (d3 _ _ _) (A7 (A0 rfl) (A7 B6 (A7 B6 C6)))) ?_
 refine B5 rfl ?_
 refine A4 ?_
 refine C5 ?_
 exact H9 rfl (B8 rfl (by rfl))
theorem Ae6 {r : TRec} (hs : r.size ≤ 1048576) : (∀ k ∈ r.Reads, k.length ≤ 4611686018427387904) ∧ sizeL TWrite.size r.Writes ≤ 1048576 ∧ r.Reads.length ≤ 1048576 ∧ r.Writes.length ≤ 1048576 := by
  unfold TRec.size at hs
  have h1 := O2 (f := fun x : Str => x.length) (l := r.Reads)
  have h2 := O2 (f := TWrite.size) (l := r.Writes)
  exact ⟨fun k hk => by have := o9 (f := fun x : Str => x.length) hk; omega, by omega, by omega, by omega⟩
theorem Al8 (r : TRec) (hs : r.size ≤ 1048576) : FSpec Tryz.prog 136 [AV.agg r.cs] (AV.bool (goodRec r)) := by
 obtain ⟨hr1, hr2, hr3, hr4⟩ := Ae6 hs
 refine E9 Tryz.func136 rfl Tryz.ntmps136 rfl ?_
 refine A3 (A2 ?_)
 refine O3 rfl rfl rfl rfl (A0 rfl) ?_
 intro b1
 refine A1 rfl (B7 rfl F8) ?_
 refine A4 (A3 (A2 ?_))
 refine A1 rfl (B1 3 rfl B3 rfl B4 (A0 rfl) rfl) ?_
 refine A1 rfl (B0 0 rfl (A0 rfl) rfl C2 rfl) ?_
 refine A1 rfl (O7 rfl (A0 rfl) B6) ?_
 refine A5 rfl ?_
 refine D0 rfl (fun hc => B1 4 rfl B3 rfl N0 (A0 rfl) rfl) ?_
 refine D0 rfl (fun hc => B0 0 rfl (A6 rfl hc) rfl P1 rfl) ?_
 refine D0 rfl (fun hc => H2 rfl E7 (A6 rfl hc)) ?_
 refine D0 rfl (fun hc => O7 rfl (A6 rfl hc) B6) ?_
 refine A1 rfl (I1 rfl (A0 rfl) (F9 rfl)) ?_
 refine A5 rfl ?_
 refine D0 rfl (fun hc => B1 5 rfl B3 rfl K2 (A0 rfl) rfl) ?_
 refine D0 rfl (fun hc => B0 0 rfl (A6 rfl hc) rfl M1 rfl) ?_
 refine D0 rfl (fun hc => H2 rfl G0 (A6 rfl hc)) ?_
 refine D0 rfl (fun hc => O7 rfl (A6 rfl hc) B6) ?_
 refine A1 rfl (I1 rfl (A0 rfl) (F9 rfl)) ?_
 refine B5 rfl ?_
 refine A4 (A3 (A3 (A2 ?_)))
 refine A1 rfl (B1 0 rfl B3 rfl B4 (A0 rfl) rfl) ?_
 refine A1 rfl (B0 0 rfl (A0 rfl) rfl C2 rfl) ?_
 refine A4 (D1 (A3 (A2 ?_)))
 refine A1 rfl (O7 rfl (A0 rfl) B6) ?_
 refine B5 rfl ?_
 refine A4 ?_
 refine C4 (A0 rfl) ?_ ?_
 ·intro h21
  have k21 := O1 h21; try simp only [A9] at k21
  refine A3 (A2 ?_)
  refine A1 rfl (B1 1 rfl B3 rfl B4 (A0 rfl) rfl) ?_
  refine A1 rfl (B0 0 rfl (A0 rfl) rfl C2 rfl) ?_
  refine A1 rfl (E8 rfl Tryz.call93 rfl (w4 _) (A7 (A0 rfl) C6)) ?_
  refine A5 rfl ?_
  refine D0 rfl (fun hc => B1 2 rfl B3 rfl B4 (A0 rfl) rfl) ?_
  refine D0 rfl (fun hc => B0 0 rfl (A6 rfl hc) rfl C2 rfl) ?_
  refine D0 rfl (fun hc => E8 rfl Tryz.call111 rfl (e9 _) (A7 (A6 rfl hc) C6)) ?_
  refine A1 rfl (I1 rfl (A0 rfl) (F9 rfl)) ?_
  refine A5 rfl ?_
  refine D0 rfl (fun hc => B1 3 rfl B3 rfl B4 (A0 rfl) rfl) ?_
  refine D0 rfl (fun hc => B0 0 rfl (A6 rfl hc) rfl C2 rfl) ?_
  refine D0 rfl (fun hc => E8 rfl Tryz.call82 rfl (d3 _ _ _) (A7 (A6 rfl hc) (A7 B6 (A7 B6 C6)))) ?_
  refine A1 rfl (I1 rfl (A0 rfl) (F9 rfl)) ?_
  refine A5 rfl ?_
  refine D0 rfl (fun hc => B1 4 rfl B3 rfl N0 (A0 rfl) rfl) ?_
  refine D0 rfl (fun hc => B0 0 rfl (A6 rfl hc) rfl P1 rfl) ?_
  refine D0 rfl (fun hc => H2 rfl E7 (A6 rfl hc)) ?_
  refine D0 rfl (fun hc => V0 rfl (A6 rfl hc) B6) ?_
  refine A1 rfl (I1 rfl (A0 rfl) (F9 rfl)) ?_
  refine A5 rfl ?_
  refine D0 rfl (fun hc => B1 4 rfl B3 rfl N0 (A0 rfl) rfl) ?_
  refine D0 rfl (fun hc => B0 0 rfl (A6 rfl hc) rfl P1 rfl) ?_
  refine D0 rfl (fun hc => E8 rfl Tryz.call119 rfl (s9 r.Reads hr1) (A7 (A6 rfl hc) C6)) ?_
  refine A1 rfl (I1 rfl (A0 rfl) (F9 rfl)) ?_
  refine A5 rfl ?_
  refine D0 rfl (fun hc => B1 5 rfl B3 rfl K2 (A0 rfl) rfl) ?_
  refine D0 rfl (fun hc => B0 0 rfl (A6 rfl hc) rfl M1 rfl) ?_
  refine D0 rfl (fun hc => H2 rfl G0 (A6 rfl hc)) ?_
  refine D0 rfl (fun hc => V0 rfl (A6 rfl hc) B6) ?_
  refine A1 rfl (I1 rfl (A0 rfl) (F9 rfl)) ?_
  refine A5 rfl ?_
  refine D0 rfl (fun hc => B1 5 rfl B3 rfl K2 (A0 rfl) rfl) ?_
  refine D0 rfl (fun hc => B0 0 rfl (A6 rfl hc) rfl M1 rfl) ?_
  refine D0 rfl (fun hc => E8 rfl Tryz.call185 rfl (AW5 r.Writes (by omega)) (A7 (A6 rfl hc) C6)) ?_
  refine A1 rfl (I1 rfl (A0 rfl) (F9 rfl)) ?_
  refine A5 rfl ?_
  refine D0 rfl (fun hc => B1 4 rfl B3 rfl N0 (A0 rfl) rfl) ?_
  refine D0 rfl (fun hc => B0 0 rfl (A6 rfl hc) rfl P1 rfl) ?_
  refine D0 rfl (fun hc => H2 rfl E7 (A6 rfl hc)) ?_
  refine D0 rfl (fun hc => B1 5 rfl B3 rfl K2 (A0 rfl) rfl) ?_
  refine D0 rfl (fun hc => B0 0 rfl (A6 rfl hc) rfl M1 rfl) ?_
  refine D0 rfl (fun hc => H2 rfl G0 (A6 rfl hc)) ?_
  refine D0 rfl (fun hc => G7 rfl (A6 rfl hc) (A6 rfl hc) (by first | omega | ((try simp only [C9, A8, szR] at *); omega) | (have hc2 := hc; simp only [P4, beq_iff_eq, bne_iff_ne, A9, E4] at hc2; omega))) ?_
  refine D0 rfl (fun hc => O8 rfl (A6 rfl hc) B6) ?_
  refine A1 rfl (I1 rfl (A0 rfl) (F9 rfl)) ?_
  refine A5 rfl ?_
  refine D0 rfl (fun hc => B1 6 rfl B3 rfl J1 (A0 rfl) rfl) ?_
  refine D0 rfl (fun hc => B0 0 rfl (A6 rfl hc) rfl K9 rfl) ?_
  refine D0 rfl (fun hc => M5 rfl (A6 rfl hc)) ?_
  refine A1 rfl (I1 rfl (A0 rfl) (F9 rfl)) ?_
  refine B5 rfl ?_
  refine A4 ?_
  refine C5 ?_
  exact H9 rfl (B8 rfl (by first | (exfalso; omega) | exact congrArg AV.bool (by unfold goodRec good1 good2 good4 bareR; simp [*])))
 intro h21
 have k21 := O0 h21; try simp only [A9] at k21
 refine A3 (A3 (A2 ?_))
 refine A1 rfl (O7 rfl (A0 rfl) B6) ?_
 refine B5 rfl ?_
 refine A4 ?_
 refine C4 (A0 rfl) ?_ ?_
 ·intro h73
  have k73 := O1 h73; try simp only [A9] at k73
  refine C8 ?_
  refine C4 (A0 rfl) ?_ ?_
  ·intro h73
   have k73 := O1 h73; try simp only [A9] at k73
   refine A3 (A2 ?_)
   refine A5 rfl ?_
   refine A5 rfl ?_
   refine D0 rfl (fun hc => B1 1 rfl B3 rfl B4 (A0 rfl) rfl) ?_
   refine D0 rfl (fun hc => B0 0 rfl (A6 rfl hc) rfl C2 rfl) ?_
   refine D0 rfl (fun hc => E8 rfl Tryz.call93 rfl (w4 _) (A7 (A6 rfl hc) C6)) ?_
   refine A1 rfl (I1 rfl (A0 rfl) (F9 rfl)) ?_
   refine A5 rfl ?_
   refine D0 rfl (fun hc => B1 6 rfl B3 rfl J1 (A0 rfl) rfl) ?_
   refine D0 rfl (fun hc => B0 0 rfl (A6 rfl hc) rfl K9 rfl) ?_
   refine D0 rfl (fun hc => B9 rfl (A6 rfl hc)) ?_
   refine J2 rfl rfl (E1 rfl rfl rfl) (fun hc => B1 2 rfl B3 rfl B4 (A0 rfl) rfl) ?_
   refine J2 rfl rfl (E1 rfl rfl rfl) (fun hc => B0 0 rfl (A6 rfl hc) rfl C2 rfl) ?_
   refine J2 rfl rfl (E1 rfl rfl rfl) (fun hc => E8 rfl Tryz.call111 rfl (e9 _) (A7 (A6 rfl hc) C6)) ?_
   refine D0 rfl (fun hc => I1 rfl (A6 rfl hc) (Q0 rfl hc)) ?_
   refine D0 rfl (fun hc => B9 rfl (A6 rfl hc)) ?_
   refine J2 rfl rfl (P5 rfl rfl rfl) (fun hc => B1 6 rfl B3 rfl J1 (A0 rfl) rfl) ?_
   refine J2 rfl rfl (P5 rfl rfl rfl) (fun hc => B0 0 rfl (A6 rfl hc) rfl K9 rfl) ?_
   refine J2 rfl rfl (P5 rfl rfl rfl) (fun hc => M5 rfl (A6 rfl hc)) ?_
   refine J2 rfl rfl (P5 rfl rfl rfl) (fun hc => B9 rfl (A6 rfl hc)) ?_
   refine J2 rfl rfl (E1 rfl rfl rfl) (fun hc => B1 2 rfl B3 rfl B4 (A0 rfl) rfl) ?_
   refine J2 rfl rfl (E1 rfl rfl rfl) (fun hc => B0 0 rfl (A6 rfl hc) rfl C2 rfl) ?_
   refine J2 rfl rfl (E1 rfl rfl rfl) (fun hc => O7 rfl (A6 rfl hc) B6) ?_
   refine J2 rfl rfl (P5 rfl rfl rfl) (fun hc => I1 rfl (A6 rfl hc) (Q0 rfl hc)) ?_
   refine D0 rfl (fun hc => R5 rfl (A6 rfl hc) (Q0 rfl hc)) ?_
   refine A1 rfl (I1 rfl (A0 rfl) (F9 rfl)) ?_
   refine B5 rfl ?_
   refine A4 ?_
   refine C5 ?_
   exact H9 rfl (B8 rfl (by first | (exfalso; omega) | exact congrArg AV.bool (by unfold goodRec good1 good2 good4 bareR; simp [*])))
  intro h73
  have k73 := O0 h73; try simp only [A9] at k73
  refine A3 (A2 ?_)
  refine A1 rfl (O7 rfl (A0 rfl) B6) ?_
  refine B5 rfl ?_
  refine A4 ?_
  refine C4 (A0 rfl) ?_ ?_
  ·intro h101
   have k101 := O1 h101; try simp only [A9] at k101
   refine A3 (A2 ?_)
   refine A5 rfl ?_
   refine A5 rfl ?_
   refine D0 rfl (fun hc => B1 1 rfl B3 rfl B4 (A0 rfl) rfl) ?_
   refine D0 rfl (fun hc => B0 0 rfl (A6 rfl hc) rfl C2 rfl) ?_
   refine D0 rfl (fun hc => O7 rfl (A6 rfl hc) B6) ?_
   refine A1 rfl (I1 rfl (A0 rfl) (F9 rfl)) ?_
   refine A5 rfl ?_
   refine D0 rfl (fun hc => B1 2 rfl B3 rfl B4 (A0 rfl) rfl) ?_
   refine D0 rfl (fun hc => B0 0 rfl (A6 rfl hc) rfl C2 rfl) ?_
   refine D0 rfl (fun hc => E8 rfl Tryz.call111 rfl (e9 _) (A7 (A6 rfl hc) C6)) ?_
   refine A1 rfl (I1 rfl (A0 rfl) (F9 rfl)) ?_
   refine A5 rfl ?_
   refine D0 rfl (fun hc => B1 6 rfl B3 rfl J1 (A0 rfl) rfl) ?_
   refine D0 rfl (fun hc => B0 0 rfl (A6 rfl hc) rfl K9 rfl) ?_
   refine D0 rfl (fun hc => M5 rfl (A6 rfl hc)) ?_
   refine A1 rfl (I1 rfl (A0 rfl) (F9 rfl)) ?_
   refine B5 rfl ?_
   refine A4 ?_
   refine C5 ?_
   exact H9 rfl (B8 rfl (by first | (exfalso; omega) | exact congrArg AV.bool (by unfold goodRec good1 good2 good4 bareR; simp [*])))
  intro h101
  have k101 := O0 h101; try simp only [A9] at k101
  refine C8 (A3 (A2 ?_))
  refine A1 rfl (B7 rfl F8) ?_
  refine A4 ?_
  refine C5 ?_
  exact H9 rfl (B8 rfl (by first | (exfalso; omega) | exact congrArg AV.bool (by unfold goodRec good1 good2 good4 bareR; simp [*])))
 intro h73
 have k73 := O0 h73; try simp only [A9] at k73
 refine A2 ?_
 refine A1 rfl (O7 rfl (A0 rfl) B6) ?_
 refine B5 rfl ?_
 refine A4 ?_
 refine C4 (A0 rfl) ?_ ?_
 ·intro h73
  have k73 := O1 h73; try simp only [A9] at k73
  refine A3 (A2 ?_)
  refine A5 rfl ?_
  refine A5 rfl ?_
  refine D0 rfl (fun hc => B1 1 rfl B3 rfl B4 (A0 rfl) rfl) ?_
  refine D0 rfl (fun hc => B0 0 rfl (A6 rfl hc) rfl C2 rfl) ?_
  refine D0 rfl (fun hc => E8 rfl Tryz.call93 rfl (w4 _) (A7 (A6 rfl hc) C6)) ?_
  refine A1 rfl (I1 rfl (A0 rfl) (F9 rfl)) ?_
  refine A5 rfl ?_
  refine D0 rfl (fun hc => B1 6 rfl B3 rfl J1 (A0 rfl) rfl) ?_
  refine D0 rfl (fun hc => B0 0 rfl (A6 rfl hc) rfl K9 rfl) ?_
  refine D0 rfl (fun hc => B9 rfl (A6 rfl hc)) ?_
  refine J2 rfl rfl (E1 rfl rfl rfl) (fun hc => B1 2 rfl B3 rfl B4 (A0 rfl) rfl) ?_
  refine J2 rfl rfl (E1 rfl rfl rfl) (fun hc => B0 0 rfl (A6 rfl hc) rfl C2 rfl) ?_
  refine J2 rfl rfl (E1 rfl rfl rfl) (fun hc => E8 rfl Tryz.call111 rfl (e9 _) (A7 (A6 rfl hc) C6)) ?_
  refine D0 rfl (fun hc => I1 rfl (A6 rfl hc) (Q0 rfl hc)) ?_
  refine D0 rfl (fun hc => B9 rfl (A6 rfl hc)) ?_
  refine J2 rfl rfl (P5 rfl rfl rfl) (fun hc => B1 6 rfl B3 rfl J1 (A0 rfl) rfl) ?_
  refine J2 rfl rfl (P5 rfl rfl rfl) (fun hc => B0 0 rfl (A6 rfl hc) rfl K9 rfl) ?_
  refine J2 rfl rfl (P5 rfl rfl rfl) (fun hc => M5 rfl (A6 rfl hc)) ?_
  refine J2 rfl rfl (P5 rfl rfl rfl) (fun hc => B9 rfl (A6 rfl hc)) ?_
  refine J2 rfl rfl (E1 rfl rfl rfl) (fun hc => B1 2 rfl B3 rfl B4 (A0 rfl) rfl) ?_
  refine J2 rfl rfl (E1 rfl rfl rfl) (fun hc => B0 0 rfl (A6 rfl hc) rfl C2 rfl) ?_
  refine J2 rfl rfl (E1 rfl rfl rfl) (fun hc => O7 rfl (A6 rfl hc) B6) ?_
  refine J2 rfl rfl (P5 rfl rfl rfl) (fun hc => I1 rfl (A6 rfl hc) (Q0 rfl hc)) ?_
  refine D0 rfl (fun hc => R5 rfl (A6 rfl hc) (Q0 rfl hc)) ?_
  refine A1 rfl (I1 rfl (A0 rfl) (F9 rfl)) ?_
  refine B5 rfl ?_
  refine A4 ?_
  refine C5 ?_
  exact H9 rfl (B8 rfl (by first | (exfalso; omega) | exact congrArg AV.bool (by unfold goodRec good1 good2 good4 bareR; simp [*])))
 intro h73
 have k73 := O0 h73; try simp only [A9] at k73
 refine A3 (A2 ?_)
 refine A1 rfl (O7 rfl (A0 rfl) B6) ?_
 refine B5 rfl ?_
 refine A4 ?_
 refine C4 (A0 rfl) ?_ ?_
 ·intro h101
  have k101 := O1 h101; try simp only [A9] at k101
  refine A3 (A2 ?_)
  refine A5 rfl ?_
  refine A5 rfl ?_
  refine D0 rfl (fun hc => B1 1 rfl B3 rfl B4 (A0 rfl) rfl) ?_
  refine D0 rfl (fun hc => B0 0 rfl (A6 rfl hc) rfl C2 rfl) ?_
  refine D0 rfl (fun hc => O7 rfl (A6 rfl hc) B6) ?_
  refine A1 rfl (I1 rfl (A0 rfl) (F9 rfl)) ?_
  refine A5 rfl ?_
  refine D0 rfl (fun hc => B1 2 rfl B3 rfl B4 (A0 rfl) rfl) ?_
  refine D0 rfl (fun hc => B0 0 rfl (A6 rfl hc) rfl C2 rfl) ?_
  refine D0 rfl (fun hc => E8 rfl Tryz.call111 rfl (e9 _) (A7 (A6 rfl hc) C6)) ?_
  refine A1 rfl (I1 rfl (A0 rfl) (F9 rfl)) ?_
  refine A5 rfl ?_
  refine D0 rfl (fun hc => B1 6 rfl B3 rfl J1 (A0 rfl) rfl) ?_
  refine D0 rfl (fun hc => B0 0 rfl (A6 rfl hc) rfl K9 rfl) ?_
  refine D0 rfl (fun hc => M5 rfl (A6 rfl hc)) ?_
  refine A1 rfl (I1 rfl (A0 rfl) (F9 rfl)) ?_
  refine B5 rfl ?_
  refine A4 ?_
  refine C5 ?_
  exact H9 rfl (B8 rfl (by first | (exfalso; omega) | exact congrArg AV.bool (by unfold goodRec good1 good2 good4 bareR; simp [*])))
 intro h101
 have k101 := O0 h101; try simp only [A9] at k101
 refine C8 (A3 (A2 ?_))
 refine A1 rfl (B7 rfl F8) ?_
 refine A4 ?_
 refine C5 ?_
 exact H9 rfl (B8 rfl (by first | (exfalso; omega) | exact congrArg AV.bool (by unfold goodRec good1 good2 good4 bareR; simp [*])))
theorem Ap9 (l : List Str) (hs : ∀ k ∈ l, k.length ≤ 4611686018427387904) : FSpec Tryz.prog 162 [strs l] (AV.bool (l4Keys l)) := by
 refine E9 Tryz.func162 rfl Tryz.ntmps162 rfl ?_
 refine U6 (t := 0) rfl fun hl => ?_
 try simp only [A9] at hl
 refine A3 (A2 ?_)
 refine A1 rfl (B7 rfl F8) ?_
 refine A4 (A3 (A3 (A2 ?_)))
 refine A5 rfl ?_
 refine A1 rfl (H2 rfl E7 (A0 rfl)) ?_
 refine A1 rfl (B9 rfl B6) ?_
 refine A4 (D1 ?_)
 refine J6 [(0, _), (5, _), (6, _)] _ (fun (i : Nat) => i ≤ l.length ∧ (l.all l3Key && adj Op.bytesLess l) = ((l.drop i).all l3Key && adj Op.bytesLess (l.drop (i - 1)))) (fun (i : Nat) => []) (fun (i : Nat) => [(7, AV.int i)]) (fun (i : Nat) => l.length - i) (0) ?_ (K0 ⟨rfl, rfl, rfl, rfl, trivial⟩) ?_
 ·exact ⟨Nat.zero_le _, rfl⟩
 intro i hinv
 refine A3 (A2 ?_)
 refine A1 rfl (K5 rfl (A0 rfl) (A0 rfl)) ?_
 refine A4 (A3 ?_)
 refine C4 (A0 rfl) ?_ ?_
 ·intro h8
  have k8 := of_decide_eq_true h8; try simp only [A9] at k8
  have hlt : i < l.length := by omega
  obtain ⟨x, hx⟩ := get_some hlt
  obtain ⟨y, hy⟩ := get_some (show i - 1 < l.length by omega)
  have hsx := hs x (G2 hx)
  refine C8 (A3 (D1 (A3 (A2 ?_))))
  refine A5 rfl ?_
  refine A1 rfl (p8 rfl E7 E5 (A0 rfl) (A0 rfl) (by omega) (by simp only [Int.toNat_natCast, List.getElem?_map, hx, Option.map_some]; try rfl)) ?_
  refine A1 rfl (N9 rfl (A0 rfl) F7 rfl) ?_
  refine B5 rfl ?_
  refine B5 rfl ?_
  refine A4 (A3 (A2 ?_))
  refine A5 rfl ?_
  refine A1 rfl (E8 rfl Tryz.call198 rfl (AI3 _ (by omega)) (A7 (A0 rfl) C6)) ?_
  refine A1 rfl (M5 rfl (A0 rfl)) ?_
  refine A5 rfl ?_
  refine H8 rfl (fun hc => B9 rfl (A0 rfl)) ?_
  refine H8 rfl (fun hc => O8 rfl (A6 rfl hc) B6) ?_
  refine H8 rfl (fun hc => B9 rfl (A6 rfl hc)) ?_
  refine J2 rfl rfl (E1 rfl rfl rfl) (fun hc => B9 rfl (A0 rfl)) ?_
  refine J2 rfl rfl (E1 rfl rfl rfl) (fun hc => B9 rfl (A0 rfl)) ?_
  refine J2 rfl rfl (E1 rfl rfl rfl) (fun hc => P9 rfl (A6 rfl hc) B6 (by first | omega | ((try simp only [C9, A8, szR] at *); omega) | (have hc2 := hc; simp only [P4, beq_iff_eq, bne_iff_ne, A9, E4] at hc2; omega))) ?_
  refine J2 rfl rfl (E1 rfl rfl rfl) (fun hc => p8 rfl E7 E5 (A6 rfl hc) (A6 rfl hc) (by have := of_decide_eq_true (and_r hc); omega) (by have := of_decide_eq_true (and_r hc); rw [show ((i : Int) - 1).toNat = i - 1 by omega]; simp only [List.getElem?_map, hy, Option.map_some]; try rfl)) ?_
  refine J2 rfl rfl (E1 rfl rfl rfl) (fun hc => N9 rfl (A6 rfl hc) F7 rfl) ?_
  refine J2 rfl rfl (E1 rfl rfl rfl) (fun hc => B9 rfl (A0 rfl)) ?_
  refine J2 rfl rfl (E1 rfl rfl rfl) (fun hc => Aj5 rfl (A6 rfl hc) (A6 rfl hc)) ?_
  refine H8 rfl (fun hc => I1 rfl (A6 rfl hc) (Q0 rfl hc)) ?_
  refine A1 rfl (R5 rfl (A0 rfl) (F9 rfl)) ?_
  refine A4 ?_
  refine C4 (A0 rfl) ?_ ?_
  ·intro h27
   have hfin : (l.all l3Key && adj Op.bytesLess l) = false := by rw [hinv.2, drop_some hx, List.all_cons]; cases hg : l3Key x with | false => simp | true => (simp only [hg, Bool.not_true, Bool.false_or, Bool.and_eq_true, decide_eq_true_eq, Bool.not_eq_true'] at h27; rw [o3 hx hy (by omega) h27.2]; simp)
   refine A3 (A2 ?_)
   refine A1 rfl (B7 rfl F8) ?_
   refine A4 ?_
   refine C5 ?_
   exact H9 rfl (B8 rfl (by first | exact congrArg AV.bool (by unfold l4Keys; rw [hfin]; rfl) | exact congrArg AV.bool (by unfold l4Keys; rw [hinv.2, c3 hge, List.drop_eq_nil_of_le hge]; simp)))
  intro h27
  refine C8 (A2 ?_)
  refine A1 rfl (G7 rfl (A0 rfl) B6 (by first | omega | (simp only [C9, A8, szR] at *; omega))) ?_
  refine A5 rfl ?_
  refine A4 ?_
  refine L9 i (i + 1) ?_ ?_ (K0 ⟨rfl, rfl, rfl, rfl, trivial⟩)
  ·exact ⟨by omega, by rw [hinv.2, drop_some hx, List.all_cons, o1 hx hy (fun h0 => by simp_all), show l3Key x = true by simp_all, Bool.true_and]⟩
  omega
 intro h8
 have k8 := of_decide_eq_false h8; try simp only [A9] at k8
 have hge : l.length ≤ i := by omega
 refine G9 ?_
 refine A3 (A2 ?_)
 refine A5 rfl ?_
 refine A1 rfl (H2 rfl E7 (A0 rfl)) ?_
 refine A1 rfl (V0 rfl (A0 rfl) B6) ?_
 refine B5 rfl ?_
 refine A4 ?_
 refine C5 ?_
 exact H9 rfl (B8 rfl (by first | exact congrArg AV.bool (by unfold l4Keys; rw [hfin]; rfl) | exact congrArg AV.bool (by unfold l4Keys; rw [hinv.2, c3 hge, List.drop_eq_nil_of_le hge]; simp)))
theorem AQ3 (r : TRec) (hs : r.size ≤ 1048576) : FSpec Tryz.prog 106 [AV.agg r.cs] (AV.bool (l4Good r)) := by
 obtain ⟨hr1, hr2, hr3, hr4⟩ := Ae6 hs
 refine E9 Tryz.func106 rfl Tryz.ntmps106 rfl ?_
 refine A3 (A2 ?_)
 refine O3 rfl rfl rfl rfl (A0 rfl) ?_
 intro b1
 refine A1 rfl (B7 rfl F8) ?_
 refine A4 (A3 (A3 (A2 ?_)))
 refine A1 rfl (B1 0 rfl B3 rfl B4 (A0 rfl) rfl) ?_
 refine A1 rfl (B0 0 rfl (A0 rfl) rfl C2 rfl) ?_
 refine A1 rfl (n4 rfl (A0 rfl) B6) ?_
 refine A5 rfl ?_
 refine D0 rfl (fun hc => B1 3 rfl B3 rfl B4 (A0 rfl) rfl) ?_
 refine D0 rfl (fun hc => B0 0 rfl (A6 rfl hc) rfl C2 rfl) ?_
 refine D0 rfl (fun hc => n4 rfl (A6 rfl hc) B6) ?_
 refine D0 rfl (fun hc => B9 rfl (A6 rfl hc)) ?_
 refine J2 rfl rfl (P5 rfl rfl rfl) (fun hc => B1 4 rfl B3 rfl N0 (A0 rfl) rfl) ?_
 refine J2 rfl rfl (P5 rfl rfl rfl) (fun hc => B0 0 rfl (A6 rfl hc) rfl P1 rfl) ?_
 refine J2 rfl rfl (P5 rfl rfl rfl) (fun hc => H2 rfl E7 (A6 rfl hc)) ?_
 refine J2 rfl rfl (P5 rfl rfl rfl) (fun hc => B1 5 rfl B3 rfl K2 (A0 rfl) rfl) ?_
 refine J2 rfl rfl (P5 rfl rfl rfl) (fun hc => B0 0 rfl (A6 rfl hc) rfl M1 rfl) ?_
 refine J2 rfl rfl (P5 rfl rfl rfl) (fun hc => H2 rfl G0 (A6 rfl hc)) ?_
 refine J2 rfl rfl (P5 rfl rfl rfl) (fun hc => G7 rfl (A6 rfl hc) (A6 rfl hc) (by first | omega | ((try simp only [C9, A8, szR] at *); omega) | (have hc2 := hc; simp only [P4, beq_iff_eq, bne_iff_ne, A9, E4] at hc2; omega))) ?_
 refine J2 rfl rfl (P5 rfl rfl rfl) (fun hc => O8 rfl (A6 rfl hc) B6) ?_
 refine D0 rfl (fun hc => R5 rfl (A6 rfl hc) (Q0 rfl hc)) ?_
 refine A1 rfl (I1 rfl (A0 rfl) (F9 rfl)) ?_
 refine A4 ?_
 refine C4 (A0 rfl) ?_ ?_
 ·intro h20
  have ho : oddR r = true := by (unfold oddR; simpa using h20)
  refine A3 (A2 ?_)
  refine A1 rfl (B7 rfl F8) ?_
  refine A4 ?_
  refine C5 ?_
  exact H9 rfl (B8 rfl (by first | (exfalso; omega) | exact congrArg AV.bool (by unfold l4Good; rw [ho]; first | rfl | (unfold l4G1 l4G2 l4G4; simp [*]))))
 intro h20
 have ho : oddR r = false := by (unfold oddR; simpa using h20)
 refine C8 (A3 (A3 (A2 ?_)))
 refine A1 rfl (B1 0 rfl B3 rfl B4 (A0 rfl) rfl) ?_
 refine A1 rfl (B0 0 rfl (A0 rfl) rfl C2 rfl) ?_
 refine A4 (D1 (A3 (A2 ?_)))
 refine A1 rfl (O7 rfl (A0 rfl) B6) ?_
 refine B5 rfl ?_
 refine A4 ?_
 refine C4 (A0 rfl) ?_ ?_
 ·intro h23
  have k23 := O1 h23; try simp only [A9] at k23
  refine A3 (A2 ?_)
  refine A1 rfl (B1 1 rfl B3 rfl B4 (A0 rfl) rfl) ?_
  refine A1 rfl (B0 0 rfl (A0 rfl) rfl C2 rfl) ?_
  refine A1 rfl (E8 rfl Tryz.call39 rfl (X7 _ _ _) (A7 (A0 rfl) (A7 B6 (A7 B6 C6)))) ?_
  refine A5 rfl ?_
  refine D0 rfl (fun hc => B1 2 rfl B3 rfl B4 (A0 rfl) rfl) ?_
  refine D0 rfl (fun hc => B0 0 rfl (A6 rfl hc) rfl C2 rfl) ?_
  refine D0 rfl (fun hc => E8 rfl Tryz.call161 rfl (j8 _) (A7 (A6 rfl hc) C6)) ?_
  refine A1 rfl (I1 rfl (A0 rfl) (F9 rfl)) ?_
  refine A5 rfl ?_
  refine D0 rfl (fun hc => B1 3 rfl B3 rfl B4 (A0 rfl) rfl) ?_
  refine D0 rfl (fun hc => B0 0 rfl (A6 rfl hc) rfl C2 rfl) ?_
  refine D0 rfl (fun hc => E8 rfl Tryz.call39 rfl (X7 _ _ _) (A7 (A6 rfl hc) (A7 B6 (A7 B6 C6)))) ?_
  refine A1 rfl (I1 rfl (A0 rfl) (F9 rfl)) ?_
  refine A5 rfl ?_
  refine D0 rfl (fun hc => B1 4 rfl B3 rfl N0 (A0 rfl) rfl) ?_
  refine D0 rfl (fun hc => B0 0 rfl (A6 rfl hc) rfl P1 rfl) ?_
  refine D0 rfl (fun hc => E8 rfl Tryz.call162 rfl (Ap9 r.Reads hr1) (A7 (A6 rfl hc) C6)) ?_
  refine A1 rfl (I1 rfl (A0 rfl) (F9 rfl)) ?_
  refine A5 rfl ?_
  refine D0 rfl (fun hc => B1 5 rfl B3 rfl K2 (A0 rfl) rfl) ?_
  refine D0 rfl (fun hc => B0 0 rfl (A6 rfl hc) rfl M1 rfl) ?_
  refine D0 rfl (fun hc => E8 rfl Tryz.call163 rfl (Ah1 r.Writes (by omega)) (A7 (A6 rfl hc) C6)) ?_
  refine A1 rfl (I1 rfl (A0 rfl) (F9 rfl)) ?_
  refine A5 rfl ?_
  refine D0 rfl (fun hc => B1 5 rfl B3 rfl K2 (A0 rfl) rfl) ?_
  refine D0 rfl (fun hc => B0 0 rfl (A6 rfl hc) rfl M1 rfl) ?_
  refine D0 rfl (fun hc => H2 rfl G0 (A6 rfl hc)) ?_
  refine D0 rfl (fun hc => E8 rfl Tryz.call39 rfl (X7 _ _ _) (A7 (A6 rfl hc) (A7 B6 (A7 B6 C6)))) ?_
  refine A1 rfl (I1 rfl (A0 rfl) (F9 rfl)) ?_
  refine A5 rfl ?_
  refine D0 rfl (fun hc => B1 4 rfl B3 rfl N0 (A0 rfl) rfl) ?_
  refine D0 rfl (fun hc => B0 0 rfl (A6 rfl hc) rfl P1 rfl) ?_
  refine D0 rfl (fun hc => H2 rfl E7 (A6 rfl hc)) ?_
  refine D0 rfl (fun hc => B1 5 rfl B3 rfl K2 (A0 rfl) rfl) ?_
  refine D0 rfl (fun hc => B0 0 rfl (A6 rfl hc) rfl M1 rfl) ?_
  refine D0 rfl (fun hc => H2 rfl G0 (A6 rfl hc)) ?_
  refine D0 rfl (fun hc => G7 rfl (A6 rfl hc) (A6 rfl hc) (by first | omega | ((try simp only [C9, A8, szR] at *); omega) | (have hc2 := hc; simp only [P4, beq_iff_eq, bne_iff_ne, A9, E4] at hc2; omega))) ?_
  refine D0 rfl (fun hc => O8 rfl (A6 rfl hc) B6) ?_
  refine A1 rfl (I1 rfl (A0 rfl) (F9 rfl)) ?_
  refine A5 rfl ?_
  refine D0 rfl (fun hc => B1 6 rfl B3 rfl J1 (A0 rfl) rfl) ?_
  refine D0 rfl (fun hc => B0 0 rfl (A6 rfl hc) rfl K9 rfl) ?_
  refine D0 rfl (fun hc => M5 rfl (A6 rfl hc)) ?_
  refine A1 rfl (I1 rfl (A0 rfl) (F9 rfl)) ?_
  refine B5 rfl ?_
  refine A4 ?_
  refine C5 ?_
  exact H9 rfl (B8 rfl (by first | (exfalso; omega) | exact congrArg AV.bool (by unfold l4Good; rw [ho]; first | rfl | (unfold l4G1 l4G2 l4G4; simp [*]))))
 intro h23
 have k23 := O0 h23; try simp only [A9] at k23
 refine A3 (A3 (A2 ?_))
 refine A1 rfl (O7 rfl (A0 rfl) B6) ?_
 refine B5 rfl ?_
 refine A4 ?_
 refine C4 (A0 rfl) ?_ ?_
 ·intro h69
  have k69 := O1 h69; try simp only [A9] at k69
  refine C8 ?_
  refine C4 (A0 rfl) ?_ ?_
  ·intro h69
   have k69 := O1 h69; try simp only [A9] at k69
   refine A3 (A2 ?_)
   refine A1 rfl (B1 1 rfl B3 rfl B4 (A0 rfl) rfl) ?_
   refine A1 rfl (B0 0 rfl (A0 rfl) rfl C2 rfl) ?_
   refine A1 rfl (E8 rfl Tryz.call39 rfl (X7 _ _ _) (A7 (A0 rfl) (A7 B6 (A7 B6 C6)))) ?_
   refine A5 rfl ?_
   refine D0 rfl (fun hc => B1 6 rfl B3 rfl J1 (A0 rfl) rfl) ?_
   refine D0 rfl (fun hc => B0 0 rfl (A6 rfl hc) rfl K9 rfl) ?_
   refine D0 rfl (fun hc => B9 rfl (A6 rfl hc)) ?_
   refine J2 rfl rfl (E1 rfl rfl rfl) (fun hc => B1 2 rfl B3 rfl B4 (A0 rfl) rfl) ?_
   refine J2 rfl rfl (E1 rfl rfl rfl) (fun hc => B0 0 rfl (A6 rfl hc) rfl C2 rfl) ?_
   refine J2 rfl rfl (E1 rfl rfl rfl) (fun hc => E8 rfl Tryz.call161 rfl (j8 _) (A7 (A6 rfl hc) C6)) ?_
   refine D0 rfl (fun hc => I1 rfl (A6 rfl hc) (Q0 rfl hc)) ?_
   refine D0 rfl (fun hc => B9 rfl (A6 rfl hc)) ?_
   refine J2 rfl rfl (P5 rfl rfl rfl) (fun hc => B1 6 rfl B3 rfl J1 (A0 rfl) rfl) ?_
   refine J2 rfl rfl (P5 rfl rfl rfl) (fun hc => B0 0 rfl (A6 rfl hc) rfl K9 rfl) ?_
   refine J2 rfl rfl (P5 rfl rfl rfl) (fun hc => M5 rfl (A6 rfl hc)) ?_
   refine J2 rfl rfl (P5 rfl rfl rfl) (fun hc => B9 rfl (A6 rfl hc)) ?_
   refine J2 rfl rfl (E1 rfl rfl rfl) (fun hc => B1 2 rfl B3 rfl B4 (A0 rfl) rfl) ?_
   refine J2 rfl rfl (E1 rfl rfl rfl) (fun hc => B0 0 rfl (A6 rfl hc) rfl C2 rfl) ?_
   refine J2 rfl rfl (E1 rfl rfl rfl) (fun hc => O7 rfl (A6 rfl hc) B6) ?_
   refine J2 rfl rfl (P5 rfl rfl rfl) (fun hc => I1 rfl (A6 rfl hc) (Q0 rfl hc)) ?_
   refine D0 rfl (fun hc => R5 rfl (A6 rfl hc) (Q0 rfl hc)) ?_
   refine A1 rfl (I1 rfl (A0 rfl) (F9 rfl)) ?_
   refine B5 rfl ?_
   refine A4 ?_
   refine C5 ?_
   exact H9 rfl (B8 rfl (by first | (exfalso; omega) | exact congrArg AV.bool (by unfold l4Good; rw [ho]; first | rfl | (unfold l4G1 l4G2 l4G4; simp [*]))))
  intro h69
  have k69 := O0 h69; try simp only [A9] at k69
  refine C8 (A3 (A2 ?_))
  refine A1 rfl (B1 0 rfl B3 rfl B4 (A0 rfl) rfl) ?_
  refine A1 rfl (B0 0 rfl (A0 rfl) rfl C2 rfl) ?_
  refine A1 rfl (O7 rfl (A0 rfl) B6) ?_
  refine A5 rfl ?_
  refine D0 rfl (fun hc => B1 1 rfl B3 rfl B4 (A0 rfl) rfl) ?_
  refine D0 rfl (fun hc => B0 0 rfl (A6 rfl hc) rfl C2 rfl) ?_
  refine D0 rfl (fun hc => O7 rfl (A6 rfl hc) B6) ?_
  refine A1 rfl (I1 rfl (A0 rfl) (F9 rfl)) ?_
  refine A5 rfl ?_
  refine D0 rfl (fun hc => B1 2 rfl B3 rfl B4 (A0 rfl) rfl) ?_
  refine D0 rfl (fun hc => B0 0 rfl (A6 rfl hc) rfl C2 rfl) ?_
  refine D0 rfl (fun hc => E8 rfl Tryz.call161 rfl (j8 _) (A7 (A6 rfl hc) C6)) ?_
  refine A1 rfl (I1 rfl (A0 rfl) (F9 rfl)) ?_
  refine A5 rfl ?_
  refine D0 rfl (fun hc => B1 6 rfl B3 rfl J1 (A0 rfl) rfl) ?_
  refine D0 rfl (fun hc => B0 0 rfl (A6 rfl hc) rfl K9 rfl) ?_
  refine D0 rfl (fun hc => M5 rfl (A6 rfl hc)) ?_
  refine A1 rfl (I1 rfl (A0 rfl) (F9 rfl)) ?_
  refine B5 rfl ?_
  refine A4 ?_
  refine C5 ?_
  exact H9 rfl (B8 rfl (by first | (exfalso; omega) | exact congrArg AV.bool (by unfold l4Good; rw [ho]; first | rfl | (unfold l4G1 l4G2 l4G4; simp [*]))))
 intro h69
 have k69 := O0 h69; try simp only [A9] at k69
 refine A2 ?_
 refine A1 rfl (O7 rfl (A0 rfl) B6) ?_
 refine B5 rfl ?_
 refine A4 ?_
 refine C4 (A0 rfl) ?_ ?_
 ·intro h69
  have k69 := O1 h69; try simp only [A9] at k69
  refine A3 (A2 ?_)
  refine A1 rfl (B1 1 rfl B3 rfl B4 (A0 rfl) rfl) ?_
  refine A1 rfl (B0 0 rfl (A0 rfl) rfl C2 rfl) ?_
  refine A1 rfl (E8 rfl Tryz.call39 rfl (X7 _ _ _) (A7 (A0 rfl) (A7 B6 (A7 B6 C6)))) ?_
  refine A5 rfl ?_
  refine D0 rfl (fun hc => B1 6 rfl B3 rfl J1 (A0 rfl) rfl) ?_
  refine D0 rfl (fun hc => B0 0 rfl (A6 rfl hc) rfl K9 rfl) ?_
  refine D0 rfl (fun hc => B9 rfl (A6 rfl hc)) ?_
  refine J2 rfl rfl (E1 rfl rfl rfl) (fun hc => B1 2 rfl B3 rfl B4 (A0 rfl) rfl) ?_
  refine J2 rfl rfl (E1 rfl rfl rfl) (fun hc => B0 0 rfl (A6 rfl hc) rfl C2 rfl) ?_
  refine J2 rfl rfl (E1 rfl rfl rfl) (fun hc => E8 rfl Tryz.call161 rfl (j8 _) (A7 (A6 rfl hc) C6)) ?_
  refine D0 rfl (fun hc => I1 rfl (A6 rfl hc) (Q0 rfl hc)) ?_
  refine D0 rfl (fun hc => B9 rfl (A6 rfl hc)) ?_
  refine J2 rfl rfl (P5 rfl rfl rfl) (fun hc => B1 6 rfl B3 rfl J1 (A0 rfl) rfl) ?_
  refine J2 rfl rfl (P5 rfl rfl rfl) (fun hc => B0 0 rfl (A6 rfl hc) rfl K9 rfl) ?_
  refine J2 rfl rfl (P5 rfl rfl rfl) (fun hc => M5 rfl (A6 rfl hc)) ?_
  refine J2 rfl rfl (P5 rfl rfl rfl) (fun hc => B9 rfl (A6 rfl hc)) ?_
  refine J2 rfl rfl (E1 rfl rfl rfl) (fun hc => B1 2 rfl B3 rfl B4 (A0 rfl) rfl) ?_
  refine J2 rfl rfl (E1 rfl rfl rfl) (fun hc => B0 0 rfl (A6 rfl hc) rfl C2 rfl) ?_
  refine J2 rfl rfl (E1 rfl rfl rfl) (fun hc => O7 rfl (A6 rfl hc) B6) ?_
  refine J2 rfl rfl (P5 rfl rfl rfl) (fun hc => I1 rfl (A6 rfl hc) (Q0 rfl hc)) ?_
  refine D0 rfl (fun hc => R5 rfl (A6 rfl hc) (Q0 rfl hc)) ?_
  refine A1 rfl (I1 rfl (A0 rfl) (F9 rfl)) ?_
  refine B5 rfl ?_
  refine A4 ?_
  refine C5 ?_
  exact H9 rfl (B8 rfl (by first | (exfalso; omega) | exact congrArg AV.bool (by unfold l4Good; rw [ho]; first | rfl | (unfold l4G1 l4G2 l4G4; simp [*]))))
 intro h69
 have k69 := O0 h69; try simp only [A9] at k69
 refine C8 (A3 (A2 ?_))
 refine A1 rfl (B1 0 rfl B3 rfl B4 (A0 rfl) rfl) ?_
 refine A1 rfl (B0 0 rfl (A0 rfl) rfl C2 rfl) ?_
 refine A1 rfl (O7 rfl (A0 rfl) B6) ?_
 refine A5 rfl ?_
 refine D0 rfl (fun hc => B1 1 rfl B3 rfl B4 (A0 rfl) rfl) ?_
 refine D0 rfl (fun hc => B0 0 rfl (A6 rfl hc) rfl C2 rfl) ?_
 refine D0 rfl (fun hc => O7 rfl (A6 rfl hc) B6) ?_
 refine A1 rfl (I1 rfl (A0 rfl) (F9 rfl)) ?_
 refine A5 rfl ?_
 refine D0 rfl (fun hc => B1 2 rfl B3 rfl B4 (A0 rfl) rfl) ?_
 refine D0 rfl (fun hc => B0 0 rfl (A6 rfl hc) rfl C2 rfl) ?_
 refine D0 rfl (fun hc => E8 rfl Tryz.call161 rfl (j8 _) (A7 (A6 rfl hc) C6)) ?_
 refine A1 rfl (I1 rfl (A0 rfl) (F9 rfl)) ?_
 refine A5 rfl ?_
 refine D0 rfl (fun hc => B1 6 rfl B3 rfl J1 (A0 rfl) rfl) ?_
 refine D0 rfl (fun hc => B0 0 rfl (A6 rfl hc) rfl K9 rfl) ?_
 refine D0 rfl (fun hc => M5 rfl (A6 rfl hc)) ?_
 refine A1 rfl (I1 rfl (A0 rfl) (F9 rfl)) ?_
 refine B5 rfl ?_
 refine A4 ?_
 refine C5 ?_
 exact H9 rfl (B8 rfl (by first | (exfalso; omega) | exact congrArg AV.bool (by unfold l4Good; rw [ho]; first | rfl | (unfold l4G1 l4G2 l4G4; simp [*]))))
end Go.Proofs.YtkegepoihkhihaaGreat

namespace Go.AV
section
variable {P : Program} {G : Nat → Prop} {n : Nat} {own : List Own} {o : Oper}
end
end Go.AV

namespace Go.AV
open Go.RowKit (Below)
section
variable {P : Program} {G : Nat → Prop} {n : Nat} {own : List Own} {o : Oper} {E : EnvF}
theorem w_tlen {t e : TypeId} {p : Operand} {v : Value} {sz lo : Nat} {es : List (List AV)} (i : Nat) (ho : o.op = .call { callee := .builtin .len, args := #[p], argTypes := #[t] }) (ht : P.underlying t = some (.slice e)) (hp : Ev E p (AV.is (tailV lo sz v))) (hi : own[i]? = some (.arr v e sz es)) : OpW P G n own o E (AV.int ((es.length - lo : Nat) : Int)) := Y0 fun w0 R0 R a w hcore he => by
  have h1 : a.eval p = _ := H3 hp (by simp [ho, Op.operands, Call.operands]) he
  obtain ⟨_, _, xs, hown, _⟩ := hcore.owned _ (G2 hi)
  obtain ⟨oa, c, rfl, _⟩ := s0 hown
  have hel : P.elem t = e := by simp [Program.elem, ht]
  have h2 := fun (b : Option Addr) => run_len_slice (P := P) w t o.type b (es.length - lo) (c - lo) (by rw [hel]; exact ht)
  exact ⟨.int .i64 (es.length - lo : Nat), by simp only [execOp, ho, resolve, invoke, builtin, List.map_toArray, List.map_cons, List.map_nil, h1, tailV, sliced, h2, Sem.run_bind, Sem.run_pure, Result.andThen_ok, goInt], rfl⟩
theorem Al9 {t e : TypeId} {p q : Operand} {v : Value} {sz lo : Nat} {es : List (List AV)} {k : Int} (i : Nat) (ho : o.op = .indexAddr t p q) (ht : P.underlying t = some (.slice e)) (hsz : ∀ w, (sizeOf e).run P w = .ok sz w) (hp : Ev E p (AV.is (tailV lo sz v))) (hi : own[i]? = some (.arr v e sz es)) (hq : Ev E q (AV.int k)) (h0 : 0 ≤ k) (hk : lo + k < es.length) :
    OpW P G n own o E (AV.is (elemPtr v ((lo + k.toNat) * sz))) := Y0 fun w0 R0 R a w hcore he => by
  have h1 : a.eval p = _ := H3 hp (by simp [ho, Op.operands]) he
  have h2 : a.eval q = .int .i64 k := H3 hq (by simp [ho, Op.operands]) he
  obtain ⟨_, _, xs, hown, _⟩ := hcore.owned _ (G2 hi)
  rcases hown.2 with ⟨rfl, hz⟩ | ⟨g, cap, cur, rfl, _, _, hn, _⟩
  · rw [hz] at hk; simp at hk; omega
  · have hel : P.elem t = e := by simp [Program.elem, ht]
    have hne : ¬ cap = lo := by omega
    have hk2 : k < ((es.length - lo : Nat) : Int) := by omega
    have h3 := run_indexAt_slice (P := P) w t ((⟨g, 0, none⟩ : Addr).add (lo * sz)) (es.length - lo) (cap - lo) .i64 k (by rw [hel]; exact ht)
    rw [if_pos ⟨h0, hk2⟩, hel, hsz, Result.andThen_ok] at h3
    have e : (lo + k.toNat) * sz = lo * sz + k.toNat * sz := Nat.add_mul _ _ _
    refine ⟨.pointer (some (Addr.add ((⟨g, 0, none⟩ : Addr).add (lo * sz)) (k.toNat * sz))), by simp only [execOp, ho, h1, h2, tailV, sliced, if_neg hne, Option.map_some, h3, Sem.run_bind, Sem.run_pure, Result.andThen_ok], ?_⟩
    rw [e]
    show Value.pointer _ = Value.pointer (some (Addr.add ⟨g, 0, none⟩ (lo * sz + k.toNat * sz)))
    simp only [Z1, Nat.zero_add]
def SrcE (own : List Own) (E : EnvF) (q : Operand) (sz : Nat) (fs : List (List AV)) : Prop :=
  ∀ (G : Nat → Prop) (w0 : World) (R0 R : RHeap) (a : Act) (w : World), Core G w0 R0 own R w → (∀ t, q = .tmp t → ∀ y, E t = some y → y.den R (a.tmps.getD t undef)) →
    (∀ f ∈ fs, f.length = sz) ∧ ∃ oa cap vs, a.eval q = .slice oa fs.length cap ∧ (fs ≠ [] → ∃ ad, oa = some ad ∧ (∀ j u, vs[j]? = some u → w.cell? (ad.add j) = some u) ∧ DenC R vs fs.flatten)
def headV (k sz : Nat) : Value → Value
  | .slice a _ c => sliced a 0 k c sz
  | v => v
theorem Az9 {q : Operand} {v : Value} {k : Nat} {e : TypeId} {sz : Nat} {es : List (List AV)} (i : Nat) (hi : own[i]? = some (.arr v e sz es)) (hq : Ev E q (AV.is (tailV k sz v))) (hk : k ≤ es.length) : SrcE own E q sz (es.drop k) := fun G w0 R0 R a w hc he => by
  have e1 : a.eval q = _ := hq R a he
  have hok := hc.owned _ (G2 hi)
  have hu := hok.2.1
  refine ⟨fun f hf => hu f (List.mem_of_mem_drop hf), ?_⟩
  obtain ⟨_, _, xs0, hown0, _⟩ := hok
  rcases hown0.2 with ⟨h1, h2⟩ | ⟨g, cap, cur0, h1, _⟩
  · subst h1
    have h3 : es = [] := List.eq_nil_of_length_eq_zero h2
    subst h3
    have : k = 0 := by simpa using hk
    subst this
    exact ⟨none, 0, [], by rw [e1]; rfl, fun h => absurd rfl h⟩
  · subst h1
    by_cases hne : es.drop k = []
    · refine ⟨_, cap - k, [], by rw [e1, List.length_drop]; rfl, fun h => absurd hne h⟩
    · have hsrc := AZ0 (own := own) (E := E) (q := q) (k := k) i hi hq
      obtain ⟨_, h7⟩ := hsrc G w0 R0 R a w hc he
      obtain ⟨ad, c, vs, k1, k2, k3⟩ := h7 hne
      exact ⟨_, c, vs, k1, fun _ => ⟨ad, rfl, k2, k3⟩⟩
theorem BA0 {q : Operand} {v : Value} {k : Nat} {e : TypeId} {sz : Nat} {es : List (List AV)} (i : Nat) (hi : own[i]? = some (.arr v e sz es)) (hq : Ev E q (AV.is (headV k sz v))) (hk : k ≤ es.length) : SrcE own E q sz (es.take k) := fun G w0 R0 R a w hc he => by
  have e1 : a.eval q = _ := hq R a he
  have hok := hc.owned _ (G2 hi)
  have hu := hok.2.1
  have hlk : (es.take k).length = k := by rw [E4]; omega
  refine ⟨fun f hf => hu f (List.mem_of_mem_take hf), ?_⟩
  obtain ⟨_, _, xs0, hown0, _⟩ := hok
  rcases hown0.2 with ⟨h1, h2⟩ | ⟨g, cap, cur0, h1, _⟩
  · subst h1
    have h3 : es = [] := List.eq_nil_of_length_eq_zero h2
    subst h3
    have : k = 0 := by simpa using hk
    subst this
    exact ⟨none, 0, [], by rw [e1]; rfl, fun h => absurd rfl h⟩
  · subst h1
    have hv : headV k sz (slv g es.length cap) = slv g k cap := AE1 g k cap sz
    rw [hv] at e1
    obtain ⟨hl, hlc, _, hu2, cur, xs, hg, hcs, htake, hxl, hd⟩ := o0 (hc.owned _ (G2 hi))
    have hmul : k * sz ≤ es.length * sz := Nat.mul_le_mul_right sz hk
    refine ⟨_, cap, xs.take (k * sz), by rw [e1, hlk], fun _ => ⟨_, rfl, fun j u hu' => ?_, ?_⟩⟩
    · have hj : j < k * sz := by have := (List.getElem?_eq_some_iff.1 hu').1; rw [E4] at this; omega
      rw [List.getElem?_take_of_lt hj, ← htake, List.getElem?_take_of_lt (by omega), Array.getElem?_toList] at hu'
      rw [Z1, Nat.zero_add]
      simp [World.cell?, hg, hu']
    · rw [Y1 k hu]
      exact ⟨by simp [hd.1], fun i u x hu' hx => by
        by_cases hij : i < k * sz
        · simp only [List.getElem?_take_of_lt hij] at hu' hx; exact hd.2 i u x hu' hx
        · rw [List.getElem?_eq_none (by simp; omega)] at hu'; cases hu'⟩
theorem w_ahiT {t e : TypeId} {p q : Operand} {v : Value} {sz : Nat} {es : List (List AV)} {k : Int} (i : Nat) (ho : o.op = .slice t p none (some q) none) (ht : P.underlying t = some (.slice e)) (hsz : ∀ w, (sizeOf e).run P w = .ok sz w) (hp : Ev E p (AV.is v)) (hi' : own[i]? = some (.arr v e sz es)) (hq : Ev E q (AV.int k)) (h0 : 0 ≤ k) (h1 : k ≤ es.length) :
    OpW P G n own o E (AV.is (headV k.toNat sz v)) := Y0 fun w0 R0 R a w hcore he => by
  have e1 : a.eval p = v := H3 hp (by simp [ho, Op.operands]) he
  have e2 : a.eval q = .int .i64 k := H3 hq (by simp [ho, Op.operands]) he
  have hel : P.elem t = e := by simp [Program.elem, ht]
  obtain ⟨_, _, xs, hown, _⟩ := hcore.owned _ (G2 hi')
  obtain ⟨oa, c, rfl, hnc⟩ := s0 hown
  have hr1 := run_slice_h (P := P) (w := w) (t := t) (a := oa) (len := es.length) (cap := c) (by rw [hel]; exact ht) .i64 k h0 (by omega)
  rw [hel, hsz, Result.andThen_ok] at hr1
  exact ⟨sliced oa 0 k.toNat c sz, by simp only [execOp, ho, e1, e2, Option.map_some, Option.map_none, run_sliceAt_slice w t _ _ _ _ (by rw [hel]; exact ht), hr1, Sem.run_bind, Sem.run_pure, Result.andThen_ok], rfl⟩
theorem n2 {ops : Array Oper} {t e : TypeId} {p q : Operand} {sz by' : Nat} {inf : TypeInfo} {z : Value} {v : Value} {es fs : List (List AV)} (i : Nat) (ho : o.op = .call { callee := .builtin .append, args := #[p, q], argTypes := #[t, t] }) (ht : P.underlying t = some (.slice e)) (hinf : P.info? e = some inf) (hz : inf.zero = some z) (hsz : inf.size = sz) (hby : inf.bytes = by') (hzs : z.cells.size = sz) (hpos : Nat.ble 1 sz = true) (hpos2 : Nat.ble 1 by' = true) (hp : Ev E p (AV.is v)) (hq : SrcE own E q sz fs) (hi : own[i]? = some (.arr v e sz es))
    (hlen : (es.length + fs.length) * by' ≤ 140737488355328) : OpE P G n own ops o E (fun _ : Value => True) (fun v' => own.set i (.arr v' e sz (es ++ fs))) (fun v' => AV.is v') :=
  fun w0 R0 R a w h1 h3 h2 => by
    have e1 : a.eval p = v := AB5 (ops := ops) hp (by simp [ho, Op.operands, Call.operands]) h2
    obtain ⟨hu, oa, c, ns, e2, hcell⟩ := hq G w0 R0 R a w h1 (fun t ht y hy => h2 t (m4 (by subst ht; exact List.mem_filterMap.2 ⟨.tmp t, by simp [ho, Op.operands, Call.operands], rfl⟩)) y hy)
    obtain ⟨hR, hue, xs, hown, hdc⟩ := h1.owned _ (G2 hi)
    have hb1 := Nat.le_of_ble_eq_true hpos
    have hb2 := Nat.le_of_ble_eq_true hpos2
    have hsum : es.length + fs.length ≤ 140737488355328 := Nat.le_trans (Nat.le_mul_of_pos_right _ hb2) hlen
    have hufs : ∀ x ∈ es ++ fs, x.length = sz := fun x hx => by
      rcases List.mem_append.1 hx with h | h
      · exact hue x h
      · exact hu x h
    by_cases hfs : fs = []
    · subst hfs
      have hrun : ∃ v', (Builtin.append_ #[t, t] o.type #[v, a.eval q]).run P w = .ok v' w ∧ v' = v := by
        refine ⟨v, ?_, rfl⟩
        rw [e2]
        rcases hown.2 with ⟨rfl, hz0⟩ | ⟨g, cap, cur, rfl, _, _, hnc, _⟩
        · cases oa with
          | none => simp [Builtin.append_, run_underlying ht, sizeOf, typeInfo, hinf, Builtin.lenOf, Builtin.firstCells, hz0]
          | some ad => simp [Builtin.append_, run_underlying ht, sizeOf, typeInfo, hinf, Builtin.lenOf, Builtin.firstCells, loadCells, loadCellsFrom, hz0]
        · cases oa with
          | none => simp [Builtin.append_, run_underlying ht, sizeOf, typeInfo, hinf, Builtin.lenOf, Builtin.firstCells, hnc, storeCells]
          | some ad => simp [Builtin.append_, run_underlying ht, sizeOf, typeInfo, hinf, Builtin.lenOf, Builtin.firstCells, loadCells, loadCellsFrom, hnc, storeCells]
      obtain ⟨v', hr, rfl⟩ := hrun
      have hex : (execOp a.eval o).run P w = .ok (.value v') w := by
        simp only [execOp, ho, resolve, invoke, builtin, Sem.run_bind, Sem.run_pure, Result.andThen_ok, List.map_toArray, List.map_cons, List.map_nil, e1, hr]
      unfold Oper.wp
      rw [hex, Oper.upon_value]
      have hset : own.set i (.arr v' e sz (es ++ [])) = own := by
        rw [List.append_nil]
        obtain ⟨hlt, he⟩ := List.getElem?_eq_some_iff.1 hi
        rw [← he]; exact List.set_getElem_self hlt
      exact ⟨v', v', R, trivial, rfl, by show Core G w0 R0 (own.set i (.arr v' e sz (es ++ []))) R w; rw [hset]; exact h1, RSub.refl _, rfl⟩
    · obtain ⟨ad, rfl, hn2, hn3⟩ := hcell hfs
      have hn1 : ns.length = fs.flatten.length := hn3.1
      have hnl : ns.length = fs.length * sz := by rw [hn1, V1 hu]
      have hone : ∀ u ∈ ns, u.oneCell' = true := fun u hm => by
        obtain ⟨j, hj⟩ := List.getElem?_of_mem hm
        have hjl : j < fs.flatten.length := by rw [← hn1]; exact (List.getElem?_eq_some_iff.1 hj).1
        exact (hn3.2 j u _ hj (List.getElem?_eq_getElem hjl)).2
      obtain ⟨v', w', hr, hown', hgr, _, hblk⟩ := run_append_own_at (P := P) w 0 t o.type e inf z sz by' ht hinf hz hsz hby hzs hb1 v es.length xs hown ad fs.length c ns hnl hn2 hone (by unfold maxLen; omega) hlen (Nat.zero_le _)
      have hex : (execOp a.eval o).run P w = .ok (.value v') w' := by
        simp only [execOp, ho, resolve, invoke, builtin, Sem.run_bind, Sem.run_pure, Result.andThen_ok, List.map_toArray, List.map_cons, List.map_nil, e1, e2, hr]
      unfold Oper.wp
      rw [hex, Oper.upon_value]
      refine ⟨v', v', R, trivial, rfl, w9 h1 hi (fun b hb => ?_) ⟨fun b hb => ?_, hufs, xs ++ ns, ?_, ?_⟩ hgr, RSub.refl _, rfl⟩
      · simp only [Own.blk] at hb ⊢
        rcases hblk with h | h
        · exact .inl (by rw [← h]; exact hb)
        · rw [hb] at h; injection h with h; exact .inr h
      · rcases hblk with h | h
        · exact hR b (by rw [← h]; exact hb)
        · rw [hb] at h; injection h with h; subst h; exact s3 h1.rle
      · rw [H5]; exact hown'
      · rw [List.flatten_append]; exact d6 hdc hn3

theorem lt_tailm {α : Type} {f : α → List AV} {l : List α} {v : Value} {e : TypeId} {sz lo k : Nat} (hm : Own.arr v e sz (l.map f) ∈ own) (hlo : lo = k) (hk : k ≤ l.length) : LendTo own (AV.is (tailV lo sz v)) (AV.list sz ((l.drop k).map f)) := fun G w0 R0 R w u hc hu => by
  subst hlo
  cases (show u = tailV lo sz v from hu)
  obtain ⟨_, _, xs, hown, _⟩ := hc.owned _ hm
  obtain ⟨oa, c, hv, hnc⟩ := s0 hown
  have h1 := N8 hm J7 G w0 R0 R w v hc rfl
  obtain ⟨oa', c', e1, k1, k2, k3, k4⟩ := h1
  subst e1
  have h9 := AH2 (R := lend own w R) (lo := lo) (hi := (l.map f).length) (es := l.map f) (oa := oa') rfl k1 k2 k3 k4 (by rw [A9]; exact hk) (Nat.le_refl _)
  rw [List.take_length, ← List.map_drop] at h9
  exact h9
end
end Go.AV

namespace Go.AV
open Go.Sort

theorem Am0 {R : RHeap} {w w' : World} {v : Value} {g : Nat} {t : TypeId} {sz : Nat} {es es' : List (List AV)} {xs : List Value} (hb : v.ownBlock = some g) (hr : RLe R w) (hR : R g = none) (hg : w.grownBy w' (some g))
    (hown : w'.ownsRow 0 t sz v es'.length xs) (hd : DenC R xs es'.flatten) (hsz : ∀ e ∈ es', e.length = sz) :
    Core (blksOf [.arr v t sz es]) w R [.arr v t sz es'] R w' := by
  refine ⟨hg.os, hg.tape, hg.output, hg.size, fun k hk hG => hg.block k hk fun e => hG ⟨_, List.mem_singleton.2 rfl, ?_⟩, fun b o hbo => ?_, fun _ _ => rfl, fun o ho => ?_, fun o ho b e => ?_, ?_⟩
  · injection e with e; subst e; exact hb
  · have h1 := hr b o hbo
    have hlt : b < w.heap.size := (Array.getElem?_eq_some_iff.1 h1).1
    rw [hg.block b hlt fun e => by injection e with e; subst e; rw [hR] at hbo; cases hbo]; exact h1
  · rw [List.mem_singleton.1 ho]
    exact ⟨fun b e => by rw [hb] at e; injection e with e; subst e; exact hR, hsz, xs, hown, hd⟩
  · rw [List.mem_singleton.1 ho] at e
    exact .inr ⟨_, List.mem_singleton.2 rfl, e⟩
  · simp [Own.blk, hb]
theorem Ae7 {R : RHeap} {w : World} {o : Own} (hr : RLe R w) (ho : Own.ok R w o) : Core (blksOf [o]) w R [o] R w :=
  ⟨rfl, rfl, rfl, Nat.le_refl _, fun _ _ _ => rfl, hr, fun _ _ => rfl, fun q hq => by rw [List.mem_singleton.1 hq]; exact ho, fun q hq b e => .inr ⟨q, hq, e⟩, by
    simp only [List.filterMap_cons, List.filterMap_nil]
    cases Own.blk o <;> simp⟩
theorem As9 {R : RHeap} {vs ys : List Value} (h : DenC R vs (ys.map AV.is)) : vs = ys := by
  refine List.ext_getElem? fun i => ?_
  have hl := h.1
  rw [A9] at hl
  by_cases hi : i < ys.length
  · have h1 : vs[i]? = some vs[i] := List.getElem?_eq_getElem (by omega)
    have h2 : (ys.map AV.is)[i]? = some (AV.is ys[i]) := by rw [List.getElem?_map, List.getElem?_eq_getElem hi]; rfl
    have h3 := (h.2 i _ _ h1 h2).1
    rw [h1, List.getElem?_eq_getElem hi]
    exact congrArg some h3
  · rw [List.getElem?_eq_none (by omega), List.getElem?_eq_none (by omega)]
theorem At0 {R : RHeap} {ys : List Value} (h : ∀ y ∈ ys, y.oneCell' = true) : DenC R ys (ys.map AV.is) := by
  refine ⟨by rw [A9], fun i v x hv hx => ?_⟩
  rw [List.getElem?_map, hv] at hx
  injection hx with hx; subst hx
  exact ⟨rfl, h v (G2 hv)⟩
theorem AQ4 {α : Type} (c : α → AV) (l : List α) : (l.map fun n => [c n]).flatten = l.map c := by
  induction l with
  | nil => rfl
  | cons x l ih => simp [ih]
theorem At1 {α : Type} {c : α → List AV} {enc : α → List Value} (hc : ∀ x, c x = (enc x).map AV.is) (l : List α) : (l.map c).flatten = ((l.map enc).flatten).map AV.is := by
  induction l with
  | nil => rfl
  | cons x l ih => simp [ih, hc]
section ordered
variable {P : Program} {f : FuncId} {t : TypeId} {α : Type} [Inhabited α]
theorem row_own1 (enc : α → Value) (h1c : ∀ x, (enc x).oneCell' = true) (srt : List α → List α) (hsl : ∀ l, (srt l).length = l.length)
    (h1 : ∀ (blk off cap : Nat) (zs : List α) (w : World), Holds enc w blk off zs.toArray → blk < w.heap.size → zs.length < 4611686018427387904 →
      Calls P f #[.slice (some ⟨blk, off, none⟩) zs.length cap] w fun e w' => e = .returned (.tuple #[]) ∧ ∃ n os, w' = grow (putRow enc (Sort.ahead w n) blk off (srt zs).toArray) os)
    (h0 : ∀ (p : Option Addr) (cap : Nat) (w : World), Calls P f #[.slice p 0 cap] w fun e w' => e = .returned (.tuple #[]) ∧ w' = w)
    (v : Value) (l : List α) (hl : l.length < 4611686018427387904) :
    GSpec P f [AV.is v] [.arr v t 1 (l.map fun n => [AV.is (enc n)])] (fun _ : Unit => True) (fun _ => [.arr v t 1 ((srt l).map fun n => [AV.is (enc n)])]) (fun _ => AV.tup []) := by
  intro R w vs hr hd hok hnd
  have hvs : vs = [v] := by
    obtain ⟨hlen, hval⟩ := hd
    cases vs with
    | nil => simp at hlen
    | cons a r =>
      cases r with
      | nil => have h9 := hval 0 a (AV.is v) rfl rfl; rw [show a = v from h9]
      | cons b r => simp at hlen
  subst hvs
  have ho := hok _ (List.mem_singleton.2 rfl)
  obtain ⟨hR, hsz, xs, hown, hden⟩ := ho
  have hxs : xs = l.map enc := by
    rw [AQ4 (fun n => AV.is (enc n))] at hden
    have h9 : l.map (fun n => AV.is (enc n)) = (l.map enc).map AV.is := by simp
    rw [h9] at hden
    exact As9 hden
  rw [A9] at hown
  rcases hown.2 with ⟨hv, hn⟩ | ⟨g, cap, cur, hv, _, hg, hnc, hcm, hcs, htk⟩
  · have hl0 : l = [] := List.length_eq_zero_iff.1 hn
    subst hv; subst hl0
    have hs0 : srt [] = [] := List.length_eq_zero_iff.1 (hsl [])
    refine (h0 none 0 w).mono ?_
    rintro e w' ⟨rfl, rfl⟩
    refine ⟨(), _, R, trivial, rfl, ⟨[], rfl, DenV.nil _⟩, ?_⟩
    rw [hs0]
    exact Ae7 hr (hok _ (List.mem_singleton.2 rfl))
  · subst hv
    have hgl : g < w.heap.size := (Array.getElem?_eq_some_iff.1 hg).1
    rw [Nat.mul_one] at htk hcs
    have hH : Holds enc w g 0 l.toArray := fun j hj => by
      have hj' : j < l.length := by simpa using hj
      have h9 : cur.toList[j]? = some (enc l[j]) := by
        rw [← List.getElem?_take_of_lt hj', htk, hxs, List.getElem?_map, List.getElem?_eq_getElem hj']; rfl
      refine ⟨?_, by simp [World.frozen?, hg]⟩
      simp only [World.cell?, hg, Nat.zero_add]
      simp only [Option.isSome_none, Bool.false_eq_true, if_false]
      rw [← Array.getElem?_toList, h9]
      simp [hj']
    refine (h1 g 0 cap l w hH hgl hl).mono ?_
    rintro e w' ⟨rfl, n, os, rfl⟩
    refine ⟨(), _, R, trivial, rfl, ⟨[], rfl, DenV.nil _⟩, ?_⟩
    have hgb : w.grownBy (grow (putRow enc (Sort.ahead w n) g 0 (srt l).toArray) os) (some g) := by
      refine ⟨rfl, rfl, rfl, by simp, fun k hk hne => ?_⟩
      rw [heap_grow_old _ _ (by simpa using hk)]
      have h9 : g ≠ k := fun e => hne (by rw [e])
      simp [putRow, mapBlock, Sort.ahead, Array.getElem?_modify, h9]
    have hheap : (grow (putRow enc (Sort.ahead w n) g 0 (srt l).toArray) os).heap[g]? = some (.cells (putCells enc 0 (srt l).toArray cur) t (0, 0)) := by
      rw [heap_grow_old _ _ (by simpa using hgl)]
      simp [putRow, mapBlock, Sort.ahead, Array.getElem?_modify, hg, onCells]
    refine Am0 (g := g) (xs := (srt l).map enc) rfl hr (hR g rfl) hgb ?_ ?_ ?_
    · rw [A9, hsl]
      refine ⟨by simp [hsl], .inr ⟨g, cap, _, rfl, Nat.zero_le _, hheap, hnc, hcm, by simp [putCells, hcs], ?_⟩⟩
      apply List.ext_getElem?
      intro j
      by_cases hj : j < l.length
      · rw [List.getElem?_take_of_lt (by omega), Array.getElem?_toList]
        have h8 : j < (srt l).length := by rw [hsl]; exact hj
        simp [putCells, h8, show j < cur.size by omega]
      · rw [List.getElem?_take_eq_none (by omega), List.getElem?_eq_none (by simp [hsl]; omega)]
    · rw [AQ4 (fun n => AV.is (enc n))]
      have h9 : (srt l).map (fun n => AV.is (enc n)) = ((srt l).map enc).map AV.is := by simp
      rw [h9]
      exact At0 fun y hy => by obtain ⟨x, _, rfl⟩ := List.mem_map.1 hy; exact h1c x
    · intro e he; obtain ⟨x, _, rfl⟩ := List.mem_map.1 he; rfl
end ordered
end Go.AV

namespace Go.Proofs
open Go.Shelf
def Tryz.sortStrs_ren : Go.Shelf.Ren := ⟨fun | 190 => 189 | 125 => 102 | 258 => 221 | 128 => 157 | 129 => 158 | 302 => 232 | 303 => 233 | 304 => 234 | 305 => 235 | 306 => 236 | 307 => 237 | 308 => 238 | 309 => 239 | 310 => 240 | 333 => 242 | 329 => 194 | 330 => 195 | 334 => 243 | 335 => 244 | 336 => 160 | 344 => 245 | n => n, fun | 31 => 99 | 9 => 9 | 3 => 3 | 46 => 158 | 0 => 0 | 51 => 200 | 53 => 112 | 4 => 4 | 183 => 194 | 182 => 193 | 131 => 24 | 5 => 5 | 218 => 228 | 222 => 232 | 228 => 251 | 229 => 252 | n => n, fun | n => n⟩
theorem Tryz.sortStrs : Go.Proofs.Lays.n190 Tryz.prog Tryz.sortStrs_ren := {
  mixed := by kernel_rfl
  f125 := Tryz.func102.trans (congrArg some (by kernel_rfl))
  f128 := Tryz.func157.trans (congrArg some (by kernel_rfl))
  f129 := Tryz.func158.trans (congrArg some (by kernel_rfl))
  f190 := Tryz.func189.trans (congrArg some (by kernel_rfl))
  f258 := Tryz.func221.trans (congrArg some (by kernel_rfl))
  f302 := Tryz.func232.trans (congrArg some (by kernel_rfl))
  f303 := Tryz.func233.trans (congrArg some (by kernel_rfl))
  f304 := Tryz.func234.trans (congrArg some (by kernel_rfl))
  f305 := Tryz.func235.trans (congrArg some (by kernel_rfl))
  f306 := Tryz.func236.trans (congrArg some (by kernel_rfl))
  f307 := Tryz.func237.trans (congrArg some (by kernel_rfl))
  f308 := Tryz.func238.trans (congrArg some (by kernel_rfl))
  f309 := Tryz.func239.trans (congrArg some (by kernel_rfl))
  f310 := Tryz.func240.trans (congrArg some (by kernel_rfl))
  f329 := Tryz.func194.trans (congrArg some (by kernel_rfl))
  f330 := Tryz.func195.trans (congrArg some (by kernel_rfl))
  f333 := Tryz.func242.trans (congrArg some (by kernel_rfl))
  f334 := Tryz.func243.trans (congrArg some (by kernel_rfl))
  f335 := Tryz.func244.trans (congrArg some (by kernel_rfl))
  f336 := Tryz.func160.trans (congrArg some (by kernel_rfl))
  f344 := Tryz.func245.trans (congrArg some (by kernel_rfl))
  t0 := Tryz.underlying0
  a0 := Tryz.isAgg0
  z0 := Tryz.sizeOf0
  v0 := Tryz.zeroValue0
  t3 := P8
  a3 := C2
  z3 := B4
  v3 := Tryz.zeroValue3
  t4 := Y5
  a4 := K9
  z4 := J1
  v4 := Tryz.zeroValue4
  t5 := Tryz.underlying5
  a5 := Tryz.isAgg5
  z5 := Tryz.sizeOf5
  v5 := Tryz.zeroValue5
  t9 := M6
  a9 := F7
  z9 := E5
  v9 := Tryz.zeroValue9
  t31 := E7
  a31 := P1
  z31 := N0
  v31 := Tryz.zeroValue99
  t46 := Tryz.underlying158
  a46 := Tryz.isAgg158
  z46 := Tryz.sizeOf158
  v46 := Tryz.zeroValue158
  t51 := Tryz.underlying200
  a51 := Tryz.isAgg200
  z51 := Tryz.sizeOf200
  v51 := Tryz.zeroValue200
  t53 := Tryz.underlying112
  a53 := g9
  z53 := W3
  v53 := Tryz.zeroValue112
  t131 := Tryz.underlying24
  a131 := Tryz.isAgg24
  z131 := Tryz.sizeOf24
  v131 := Tryz.zeroValue24
  t182 := Tryz.underlying193
  a182 := Tryz.isAgg193
  z182 := Tryz.sizeOf193
  v182 := Tryz.zeroValue193
  t183 := Tryz.underlying194
  a183 := Tryz.isAgg194
  z183 := Tryz.sizeOf194
  v183 := Tryz.zeroValue194
  t218 := Tryz.underlying228
  a218 := Tryz.isAgg228
  z218 := Tryz.sizeOf228
  v218 := Tryz.zeroValue228
  t222 := Tryz.underlying232
  a222 := Tryz.isAgg232
  z222 := Tryz.sizeOf232
  v222 := Tryz.zeroValue232
  t228 := Tryz.underlying251
  a228 := Tryz.isAgg251
  z228 := Tryz.sizeOf251
  v228 := Tryz.zeroValue251
  t229 := Tryz.underlying252
  a229 := Tryz.isAgg252
  z229 := Tryz.sizeOf252
  v229 := Tryz.zeroValue252 }
end Go.Proofs

namespace Go.Proofs.YtkegepoihkhihaaGreat
open Go Go.AV Go.M
attribute [local irreducible] OpW OpA OpS AWP FSpec ESpec GSpec OpE RetOk RetOkG RvDen Le Ev GuardIs SrcIs Int.tmod Int.tdiv IntKind.wrap
theorem Am1 (v : Value) (l : List Str) (hl : l.length < 4611686018427387904) : GSpec Tryz.prog 189 [AV.is v] [.arr v 9 1 (l.map fun s => [AV.str s])] (fun _ : Unit => True) (fun _ => [.arr v 9 1 ((sortS l).map fun s => [AV.str s])]) (fun _ => AV.tup []) :=
  row_own1 Go.Proofs.encStr (fun _ => rfl) sortS AL2
    (fun blk off cap zs w h1 h2 h3 => Any.slices_Sort_string Tryz.sortStrs blk off cap zs w h1 h2 h3) (fun p cap w => Any.slices_Sort_string_none Tryz.sortStrs p cap w) v l hl
end Go.Proofs.YtkegepoihkhihaaGreat

namespace Go.Proofs.YtkegepoihkhihaaGreat
open Go Go.AV Go.M
attribute [local irreducible] OpW OpA OpS AWP FSpec ESpec GSpec OpE RetOk RetOkG RvDen Le Ev GuardIs SrcIs Int.tmod Int.tdiv IntKind.wrap
theorem AC1 {l : List Str} {i j : Nat} {s : Str} (h : l[i]? = some s) (hj : j = i * 1) : ((l.map fun s => [AV.str s]).flatten)[j]? = some (AV.str s) := by
  rw [hj, Nat.mul_one]
  have e : (l.map fun s => [AV.str s]).flatten = l.map AV.str := by
    clear h
    induction l with
    | nil => rfl
    | cons x l ih => simp [ih]
  rw [e, List.getElem?_map, h]; rfl
theorem Aa1 (v : Value) (l : List Str) (hl : l.length ≤ 4194304) : GSpec Tryz.prog 190 [AV.is v] [.arr v 9 1 (l.map fun s => [AV.str s])]
   (fun _ : Value => True) (fun v => [.arr v 9 1 ((cmpL l).map fun s => [AV.str s])]) (fun v => AV.is v) := by
 refine I9 Tryz.func190 rfl Tryz.ntmps190 rfl ?_
 refine A3 (A2 ?_)
 refine A1 rfl (B7 rfl M4) ?_
 refine A4 (A3 (A3 (A2 ?_)))
 refine A5 rfl ?_
 refine A1 rfl (V8 0 rfl E7 (A0 rfl) rfl) ?_
 refine A1 rfl (K5 rfl (A0 rfl) B6) ?_
 refine A4 ?_
 refine C4 (A0 rfl) ?_ ?_
 ·intro h8
  have k8 := of_decide_eq_true h8; try simp only [A9] at k8
  have hall : cmpL l = l := by (unfold cmpL; rw [AD2 (Nat.le_refl _) (fun i h1 h2 => by omega), List.take_length])
  refine A3 (A2 ?_)
  refine A5 rfl ?_
  refine B5 rfl ?_
  refine A4 ?_
  refine C5 ?_
  exact M3 [0] v (trivial) rfl (by first | exact congrArg (fun z => [Own.arr _ 9 1 (List.map (fun s => [AV.str s]) z)]) hall | (refine congrArg (fun z => [Own.arr _ 9 1 z]) ?_; exact (AZ3 hinv.2.2.2.2.1 hge (by omega)).symm)) (P7 rfl (B8 rfl (by first | rfl | (refine congrArg AV.bool ?_; simp_all; done))))
 intro h8
 have k8 := of_decide_eq_false h8; try simp only [A9] at k8
 refine C8 (A3 (A3 (A2 ?_)))
 refine A1 rfl (B7 rfl B6) ?_
 refine A4 (D1 ?_)
 refine J6 [(0, _)] _ (fun (k : Nat) => (1 ≤ k ∧ k ≤ l.length) ∧ ∀ i, 1 ≤ i → i < k → l[i]? ≠ l[i - 1]?) (fun (k : Nat) => []) (fun (k : Nat) => [(3, AV.int k)]) (fun (k : Nat) => l.length - k) (1) ?_ (K0 ⟨rfl, rfl, trivial⟩) ?_
 ·exact ⟨⟨Nat.le_refl _, by omega⟩, fun i h1 h2 => by omega⟩
 intro k hinv
 refine A3 (A3 (A2 ?_))
 refine A5 rfl ?_
 refine A5 rfl ?_
 refine A1 rfl (V8 0 rfl E7 (A0 rfl) rfl) ?_
 refine A1 rfl (K5 rfl (A0 rfl) (A0 rfl)) ?_
 refine A4 ?_
 refine C4 (A0 rfl) ?_ ?_
 ·intro h13
  have k13 := of_decide_eq_true h13; try simp only [A9] at k13
  have hlt : k < l.length := by omega
  obtain ⟨x, hx⟩ := get_some hlt
  obtain ⟨y, hy⟩ := get_some (show k - 1 < l.length by omega)
  refine C8 (A3 (D1 (A3 ?_)))
  refine J5 (by kernel_rfl) (by kernel_rfl) rfl ?_
  refine B2 rfl rfl (B9 rfl (A0 rfl)) ?_
  refine B2 rfl rfl (B9 rfl (A0 rfl)) ?_
  refine B2 rfl rfl (U2 0 rfl E7 E5 (A0 rfl) rfl (A0 rfl) (by first | omega | (simp only [C9, A8, szR] at *; omega)) (by first | omega | (simp only [C9, A8, szR] at *; omega))) ?_
  refine B2 rfl rfl (n9 0 rfl (A0 rfl) rfl F7 (AC1 hx (by omega))) ?_
  refine B2 rfl rfl (B9 rfl (A0 rfl)) ?_
  refine B2 rfl rfl (B9 rfl (A0 rfl)) ?_
  refine B2 rfl rfl (P9 rfl (A0 rfl) B6 (by first | omega | (simp only [C9, A8, szR] at *; omega))) ?_
  refine B2 rfl rfl (U2 0 rfl E7 E5 (A0 rfl) rfl (A0 rfl) (by first | omega | (simp only [C9, A8, szR] at *; omega)) (by first | omega | (simp only [C9, A8, szR] at *; omega))) ?_
  refine B2 rfl rfl (n9 0 rfl (A0 rfl) rfl F7 (AC1 hy (by omega))) ?_
  refine B2 rfl rfl (w7 rfl (A0 rfl) (A0 rfl)) ?_
  refine P2 ?_
  refine C4 (A0 rfl) ?_ ?_
  ·intro h25
   have hxy : l[k]? = l[k - 1]? := by (rw [hx, hy]; have h9 := h25; simp at h9; rw [h9])
   have hinv0 := hinv
   refine A3 (A2 ?_)
   refine A5 rfl ?_
   refine A5 rfl ?_
   refine A1 rfl (AV1 0 rfl E7 E5 (A0 rfl) rfl (A0 rfl) (by first | omega | (simp only [C9, A8, szR] at *; omega)) (by first | omega | (simp only [C9, A8, szR] at *; omega))) ?_
   refine B5 rfl ?_
   refine A4 (A3 (A3 (A2 ?_)))
   refine A1 rfl (B7 rfl B6) ?_
   refine A4 (D1 ?_)
   refine Z4 [(0, _), (4, _), (10, _), (11, _), (12, _), (13, _), (16, _), (17, _), (18, _), (19, _), (20, _), (21, _), (22, _), (23, _), (24, _), (25, _), (26, _), (27, _), (28, _)] _ (fun (i : Nat) (j : Nat) (m : List Str) => 1 ≤ j ∧ k + j ≤ l.length ∧ i + 1 ≤ k + j ∧ m.length = l.length ∧ m.take i = cmpN l (k + j) ∧ m.drop (k + j - 1) = l.drop (k + j - 1)) (fun (i : Nat) (j : Nat) (m : List Str) => [.arr v 9 1 (m.map fun s => [AV.str s])]) (fun (i : Nat) (j : Nat) (m : List Str) => [(3, AV.int i), (5, AV.int j)]) (fun (i : Nat) (j : Nat) (m : List Str) => l.length - (k + j)) (k) (1) (l) ?_ (S6 (by rfl) ⟨rfl, rfl, rfl, rfl, rfl, rfl, rfl, rfl, rfl, rfl, rfl, rfl, rfl, rfl, rfl, rfl, rfl, rfl, rfl, rfl, rfl, trivial⟩) ?_
   ·exact ⟨Nat.le_refl _, by omega, by omega, rfl, by rw [Ac4 (by omega) hxy, AD2 (by omega) hinv0.2], rfl⟩
   intro i j m hinv
   refine A3 (A3 (A2 ?_))
   refine A5 rfl ?_
   refine A5 rfl ?_
   refine A1 rfl (w_tlen 0 rfl E7 (A0 rfl) rfl) ?_
   refine A1 rfl (K5 rfl (A0 rfl) (A0 rfl)) ?_
   refine A4 ?_
   refine C4 (A0 rfl) ?_ ?_
   ·intro h32
    have k32 := of_decide_eq_true h32; try simp only [A9] at k32
    have hm := hinv.2.2.2.1
    have hlt1 : k + j < l.length := by omega
    obtain ⟨x1, hx1⟩ := get_some hlt1
    obtain ⟨y1, hy1⟩ := get_some (show k + j - 1 < l.length by omega)
    have hmx := AL1 hinv.2.2.2.2.2 hx1 (by omega)
    have hmy := AL1 hinv.2.2.2.2.2 hy1 (by omega)
    refine C8 (A3 (D1 (A3 ?_)))
    refine J5 (by kernel_rfl) (by kernel_rfl) rfl ?_
    refine B2 rfl rfl (B9 rfl (A0 rfl)) ?_
    refine B2 rfl rfl (B9 rfl (A0 rfl)) ?_
    refine B2 rfl rfl (Al9 0 rfl E7 E5 (A0 rfl) rfl (A0 rfl) (by omega) (by simp only [A9]; omega)) ?_
    refine B2 rfl rfl (n9 0 rfl (A0 rfl) rfl F7 (AC1 hmx (by rw [show ((k : Int).toNat + (j : Int).toNat) = k + j by omega]))) ?_
    refine B2 rfl rfl (B9 rfl (A0 rfl)) ?_
    refine B2 rfl rfl (B9 rfl (A0 rfl)) ?_
    refine B2 rfl rfl (P9 rfl (A0 rfl) B6 (by first | omega | (simp only [C9, A8, szR] at *; omega))) ?_
    refine B2 rfl rfl (Al9 0 rfl E7 E5 (A0 rfl) rfl (A0 rfl) (by omega) (by simp only [A9]; omega)) ?_
    refine B2 rfl rfl (n9 0 rfl (A0 rfl) rfl F7 (AC1 hmy (by rw [show ((k : Int).toNat + ((j : Int) - 1).toNat) = k + j - 1 by omega]))) ?_
    refine B2 rfl rfl (AU6 rfl (A0 rfl) (A0 rfl)) ?_
    refine P2 ?_
    refine C4 (A0 rfl) ?_ ?_
    ·intro h44
     refine A3 (A2 ?_)
     refine A5 rfl ?_
     refine A5 rfl ?_
     refine A5 rfl ?_
     refine A5 rfl ?_
     refine A1 rfl (Al9 0 rfl E7 E5 (A0 rfl) rfl (A0 rfl) (by omega) (by simp only [A9]; omega)) ?_
     refine A1 rfl (n9 0 rfl (A0 rfl) rfl F7 (AC1 hmx (by rw [show ((k : Int).toNat + (j : Int).toNat) = k + j by omega]))) ?_
     refine A1 rfl (U2 0 rfl E7 E5 (A0 rfl) rfl (A0 rfl) (by omega) (by simp only [A9]; omega)) ?_
     refine Ay1 0 rfl rfl rfl (A0 rfl) (A0 rfl) (O5 _) rfl E5 rfl (by simp only [A9, Int.toNat_natCast]; omega) ?_
     refine A4 (A2 ?_)
     refine A5 rfl ?_
     refine A1 rfl (G7 rfl (A0 rfl) B6 (by first | omega | (simp only [C9, A8, szR] at *; omega))) ?_
     refine B5 rfl ?_
     refine A4 (A2 ?_)
     refine A5 rfl ?_
     refine A1 rfl (G7 rfl (A0 rfl) B6 (by first | omega | (simp only [C9, A8, szR] at *; omega))) ?_
     refine B5 rfl ?_
     refine A4 ?_
     refine X0 i j m (i + 1) (j + 1) (m.set i x1) ?_ ?_ (S6 (by first | exact congrArg (fun z => [Own.arr v 9 1 z]) (List.map_set).symm | rfl) ⟨rfl, rfl, rfl, rfl, rfl, rfl, rfl, rfl, rfl, rfl, rfl, rfl, rfl, rfl, rfl, rfl, rfl, rfl, rfl, rfl, rfl, trivial⟩)
     ·exact cmp_keep hinv (by omega) hx1 hy1 (by simpa using h44)
     omega
    intro h44
    refine C8 (A2 ?_)
    refine A5 rfl ?_
    refine A1 rfl (G7 rfl (A0 rfl) B6 (by first | omega | (simp only [C9, A8, szR] at *; omega))) ?_
    refine B5 rfl ?_
    refine A4 ?_
    refine X0 i j m (i) (j + 1) (m) ?_ ?_ (S6 (by first | exact congrArg (fun z => [Own.arr v 9 1 z]) (List.map_set).symm | rfl) ⟨rfl, rfl, rfl, rfl, rfl, rfl, rfl, rfl, rfl, rfl, rfl, rfl, rfl, rfl, rfl, rfl, rfl, rfl, rfl, rfl, rfl, trivial⟩)
    ·exact cmp_skip hinv (by omega) hx1 hy1 (by simpa using h44)
    omega
   intro h32
   have k32 := of_decide_eq_false h32; try simp only [A9] at k32
   have hm := hinv.2.2.2.1
   have hge : k + j = l.length := by omega
   refine G9 ?_
   refine A3 (A2 ?_)
   refine A5 rfl ?_
   refine A5 rfl ?_
   refine A1 rfl (AV1 0 rfl E7 E5 (A0 rfl) rfl (A0 rfl) (by first | omega | (simp only [C9, A8, szR] at *; omega)) (by first | omega | (simp only [C9, A8, szR] at *; omega))) ?_
   refine Ay4 0 rfl rfl rfl E7 Tryz.zeroValue9 rfl rfl (by decide) (A0 rfl) rfl (by simp only [A9, Int.toNat_natCast]; omega) ?_
   refine A4 (A3 (A2 ?_))
   refine A5 rfl ?_
   refine A5 rfl ?_
   refine sq_ahi 0 rfl rfl rfl rfl E7 E5 (A0 rfl) rfl (A0 rfl) (by omega) (by simp only [A9, H5, E4, List.length_replicate]; omega) ?_
   intro v59_1
   refine B5 rfl ?_
   refine A4 ?_
   refine C5 ?_
   exact M3 [0] v59_1 (trivial) rfl (by first | exact congrArg (fun z => [Own.arr _ 9 1 (List.map (fun s => [AV.str s]) z)]) hall | (refine congrArg (fun z => [Own.arr _ 9 1 z]) ?_; exact (AZ3 hinv.2.2.2.2.1 hge (by omega)).symm)) (P7 rfl (B8 rfl (by first | rfl | (refine congrArg AV.bool ?_; simp_all; done))))
  intro h25
  refine C8 (A2 ?_)
  refine A5 rfl ?_
  refine A1 rfl (G7 rfl (A0 rfl) B6 (by first | omega | (simp only [C9, A8, szR] at *; omega))) ?_
  refine B5 rfl ?_
  refine A4 ?_
  refine L9 k (k + 1) ?_ ?_ (K0 ⟨rfl, rfl, trivial⟩)
  ·exact ⟨⟨by omega, by omega⟩, fun i h1 h2 => if e : i = k then (by subst e; rw [hx, hy]; intro e; injection e with e; subst e; simp at h25) else hinv.2 i h1 (by omega)⟩
  omega
 intro h13
 have k13 := of_decide_eq_false h13; try simp only [A9] at k13
 have hall : cmpL l = l := by (unfold cmpL; rw [AD2 (Nat.le_refl _) (fun i h1 h2 => hinv.2 i h1 (by omega)), List.take_length])
 refine G9 ?_
 refine A3 (A2 ?_)
 refine A5 rfl ?_
 refine B5 rfl ?_
 refine A4 ?_
 refine C5 ?_
 exact M3 [0] v (trivial) rfl (by first | exact congrArg (fun z => [Own.arr _ 9 1 (List.map (fun s => [AV.str s]) z)]) hall | (refine congrArg (fun z => [Own.arr _ 9 1 z]) ?_; exact (AZ3 hinv.2.2.2.2.1 hge (by omega)).symm)) (P7 rfl (B8 rfl (by first | rfl | (refine congrArg AV.bool ?_; simp_all; done))))
end Go.Proofs.YtkegepoihkhihaaGreat

namespace Go.M
open Go.AV
theorem BA1 {l : List TWrite} (h : adj wLess l = true) (k : Str) : wHas l k = hasK l k := by
  have e := findW_eq h k
  cases hw : wHas l k with
  | true =>
    obtain ⟨x, hx, hk⟩ := wHas_iff.1 hw
    exact (j4.2 ⟨x, G2 hx, hk⟩).symm
  | false =>
    rw [hw] at e
    simp only [Bool.false_eq_true, if_false] at e
    unfold findW at e
    rw [List.find?_eq_none] at e
    cases hk : hasK l k with
    | false => rfl
    | true => obtain ⟨x, hx, hxk⟩ := j4.1 hk; have := e x hx; simp [hxk] at this
theorem Av9 {w : List TWrite} (h : goodWrites w = true) : adj wLess w = true := by
  unfold goodWrites areRising wKeys at h
  simp only [Bool.and_eq_true] at h
  have := h.1.2.2
  rw [AO0] at this
  exact this
theorem BA2 {l : List TCell} (ha : adj cLess l = true) {k : Str} {c : TCell} (hc : cHas l k = true → l[cPos l k]? = some c) : fullC l k = (cHas l k && decide ((16 : Int) ≤ (c.Vers.length : Int))) := by
  unfold fullC
  rw [AS7 ha]
  cases h : cHas l k with
  | false => simp
  | true =>
    rw [if_pos rfl, hc h, Bool.true_and]
    dsimp only
    rw [decide_eq_decide]; omega
theorem X8 {l : List THeld} {i : Nat} {h : THeld} {n : Nat} (hs : sizeL THeld.size l ≤ n) (hx : l[i]? = some h) : h.size ≤ n ∧ sizeL TWrite.size h.Writes ≤ n ∧ h.Writes.length ≤ n ∧ h.Reads.length ≤ n ∧ (hRec h).size ≤ n := by
  have h1 := Nat.le_trans (X6 hx) hs
  have h2 : h.size = sizeL (fun x => x.length) h.Reads + sizeL TWrite.size h.Writes := rfl
  have h3 := O2 (f := fun x : Str => x.length) (l := h.Reads)
  have h4 := O2 (f := TWrite.size) (l := h.Writes)
  have h5 : (hRec h).size = sizeL (fun x => x.length) h.Reads + sizeL TWrite.size h.Writes := rfl
  exact ⟨by omega, by omega, by omega, by omega, by omega⟩
theorem Ah3 {α : Type} {f : α → Nat} {l : List α} (i : Nat) : sizeL f (l.take i) ≤ sizeL f l := by
  have := q9 (f := f) (l := l.take i) (r := l.drop i)
  rw [List.take_append_drop] at this; omega
theorem Aa2 : ∀ {l : List THeld}, (hWs l).length ≤ sizeL THeld.size l
  | [] => Nat.zero_le _
  | h :: l => by
    have ih := Aa2 (l := l)
    have h4 := O2 (f := TWrite.size) (l := h.Writes)
    have h2 : h.size = sizeL (fun x => x.length) h.Reads + sizeL TWrite.size h.Writes := rfl
    rw [AB7, H5, N6]; omega
theorem Am2 {l : List THeld} {i : Nat} {h : THeld} (hx : l[i]? = some h) : hWs (l.take (i + 1)) = hWs (l.take i) ++ h.Writes := by
  rw [List.take_add_one, hx, AW3]
  show _ ++ hWs [h] = _
  rw [AB7]; simp [hWs]
def hCmp (n : Int) (h : THeld) : Int := cmpInt h.Txn n
def hPos (l : List THeld) (n : Int) : Nat := bs (hCmp n) l 0 l.length
def hHas (l : List THeld) (n : Int) : Bool := bsAt (hCmp n) l (hPos l n)
theorem AI5 (a b : Int) : cmpInt a b < 0 ↔ a < b := by unfold cmpInt; split <;> (try split) <;> omega
theorem AQ5 (a b : Int) : cmpInt a b = 0 ↔ a = b := by unfold cmpInt; split <;> (try split) <;> omega
theorem AO6 {α : Type} {f : α → Int} {l : List α} (h : l.Pairwise fun a b => f a < f b) {i j : Nat} {x y : α} (hij : i < j) (hx : l[i]? = some x) (hy : l[j]? = some y) : f x < f y := by
  obtain ⟨i1, i2⟩ := List.getElem?_eq_some_iff.1 hx
  obtain ⟨j1, j2⟩ := List.getElem?_eq_some_iff.1 hy
  have := List.pairwise_iff_getElem.1 h i j i1 j1 hij
  rw [i2, j2] at this; exact this
theorem bsI_spec {α : Type} {f : α → Int} {l : List α} (h : l.Pairwise fun a b => f a < f b) (n : Int) : (∀ i x, i < bs (fun a => cmpInt (f a) n) l 0 l.length → l[i]? = some x → f x < n) ∧ (∀ x, l[bs (fun a => cmpInt (f a) n) l 0 l.length]? = some x → n ≤ f x) := by
  have := AZ4 (fun a => cmpInt (f a) n) l (fun i j x y hij hx hy hf => by
    rw [AI5] at *
    have := AO6 h hij hx hy; omega) l.length 0 l.length rfl (Nat.zero_le _) (Nat.le_refl _) (fun k x hk => by omega) (fun x hx => by rw [List.getElem?_eq_none (Nat.le_refl _)] at hx; cases hx)
  exact ⟨fun i x hi hx => (AI5 _ _).1 (this.1 i x hi hx), fun x hx => by have := this.2 x hx; rw [AI5] at this; omega⟩
theorem bsI_has {α : Type} {f : α → Int} {l : List α} (h : l.Pairwise fun a b => f a < f b) (n : Int) : bsAt (fun a => cmpInt (f a) n) l (bs (fun a => cmpInt (f a) n) l 0 l.length) = l.any fun a => f a == n := by
  obtain ⟨h1, h2⟩ := bsI_spec h n
  cases ha : l.any fun a => f a == n with
  | true =>
    rw [List.any_eq_true] at ha
    obtain ⟨x, hx, e⟩ := ha
    obtain ⟨i, hi⟩ := List.getElem?_of_mem hx
    have e : f x = n := by simpa using e
    have hip : bs (fun a => cmpInt (f a) n) l 0 l.length = i := by
      rcases Nat.lt_trichotomy i (bs (fun a => cmpInt (f a) n) l 0 l.length) with h3 | h3 | h3
      · have := h1 i x h3 hi; omega
      · exact h3.symm
      · have hl := (List.getElem?_eq_some_iff.1 hi).1
        have hy := List.getElem?_eq_getElem (show bs (fun a => cmpInt (f a) n) l 0 l.length < l.length by omega)
        have h4 := h2 _ hy
        have h5 := AO6 h h3 hy hi; omega
    rw [hip]
    unfold bsAt
    rw [hi]
    simp only [(AQ5 _ _).2 e]; rfl
  | false =>
    rw [List.any_eq_false] at ha
    unfold bsAt
    cases e : l[bs (fun a => cmpInt (f a) n) l 0 l.length]? with
    | none => rfl
    | some x =>
      have := ha x (G2 e)
      simp only [beq_iff_eq] at this ⊢
      rw [beq_eq_false_iff_ne]
      exact fun k => this ((AQ5 _ _).1 k)
theorem At2 {l : List THeld} (h : l.Pairwise fun a b => a.Txn < b.Txn) (n : Int) : hHas l n = hasH l n := bsI_has (f := THeld.Txn) h n
theorem W1 {s : TState} {n : Nat} (h : s.size ≤ n) : sizeL TCell.size s.Cells ≤ n ∧ sizeL THeld.size s.Held ≤ n ∧ s.Told.length ≤ n ∧ s.Cells.length ≤ n ∧ s.Held.length ≤ n := by
  have h1 : s.size = sizeL TCell.size s.Cells + sizeL THeld.size s.Held + s.Told.length := rfl
  have h2 := O2 (f := TCell.size) (l := s.Cells)
  have h3 := O2 (f := THeld.size) (l := s.Held)
  exact ⟨by omega, by omega, by omega, by omega, by omega⟩
theorem y7 {s : TState} {i : Nat} {h y : THeld} (hx : s.Held[i]? = some h) (hy : s.Held[i - 1]? = some y) : heldAt s i = (!(((!goodRec (hRec h) || decide (s.Floor < h.Time)) || (decide ((0 : Int) < (i : Int)) && decide (h.Txn ≤ y.Txn)))) && (!((s.Held.take i).any fun g => clash h g) && !(h.Writes.any fun w => decide (h.Time ≤ lastTime s.Cells w.Key)))) := by
  unfold heldAt
  rw [hx]
  have h1 : hPrev s.Held i h.Txn = !(decide ((0 : Int) < (i : Int)) && decide (h.Txn ≤ y.Txn)) := by
    unfold hPrev; rw [hy]; dsimp only
    congr 2
    rw [decide_eq_decide]; omega
  have h2 : ((s.Held.take i).all fun g => apart g h.Reads h.Writes) = !((s.Held.take i).any fun g => clash h g) := by
    rw [List.not_any_eq_all_not]; congr 1; funext g; rw [AQ0, Bool.not_not]
  have h3 : (h.Writes.all fun w => decide (lastTime s.Cells w.Key < h.Time)) = !(h.Writes.any fun w => decide (h.Time ≤ lastTime s.Cells w.Key)) := by
    rw [List.not_any_eq_all_not]; congr 1; funext w; rw [← decide_not, decide_eq_decide]; omega
  dsimp only
  rw [h1, h2, h3]
  simp only [Bool.not_or, Bool.not_not, Bool.and_assoc]
theorem AQ6 {s : TState} {i : Nat} {h : THeld} (hx : s.Held[i]? = some h) (hg : heldAt s i = true) : goodRec (hRec h) = true ∧ ∀ g, 0 < i → s.Held[i - 1]? = some g → g.Txn < h.Txn := by
  unfold heldAt at hg
  rw [hx] at hg
  simp only [Bool.and_eq_true, AL8] at hg
  exact ⟨hg.1.1.1.1, hg.1.1.2⟩
theorem AT3 {h : THeld} (hg : goodRec (hRec h) = true) : adj wLess h.Writes = true := by
  unfold goodRec hRec at hg
  rw [if_pos rfl] at hg
  unfold good1 at hg
  simp only [Bool.and_eq_true] at hg
  exact Av9 hg.1.1.2
theorem Am3 {s : TState} (h : areHeld s = true) : s.Held.Pairwise fun a b => a.Txn < b.Txn := by
  unfold areHeld at h
  rw [Bool.and_eq_true, l9] at h
  exact AI0 fun i x y h0 hx hy => (AQ6 hx (h.1 i (List.getElem?_eq_some_iff.1 hx).1)).2 y h0 hy
theorem AD6 {s : TState} {i : Nat} {t y : TTold} (hx : s.Told[i]? = some t) (hy : s.Told[i - 1]? = some y) : toldAt s i = (!((!isTxnR t.Txn || !((t.Yes && within t.Time 1 s.Floor) || (!t.Yes && (t.Time == 0)))) || (decide ((0 : Int) < (i : Int)) && decide (t.Txn ≤ y.Txn))) && !hasH s.Held t.Txn) := by
  unfold toldAt
  rw [hx]
  have h1 : tPrev s.Told i t.Txn = !(decide ((0 : Int) < (i : Int)) && decide (t.Txn ≤ y.Txn)) := by
    unfold tPrev; rw [hy]; dsimp only
    congr 2
    rw [decide_eq_decide]; omega
  have h2 : tFits s t = ((t.Yes && within t.Time 1 s.Floor) || (!t.Yes && (t.Time == 0))) := by
    unfold tFits; cases t.Yes <;> simp
  dsimp only
  rw [h1, h2]
  generalize ((t.Yes && within t.Time 1 s.Floor) || (!t.Yes && (t.Time == 0))) = b
  simp only [Bool.not_or, Bool.not_not, Bool.and_assoc]
end Go.M
namespace Go.Proofs.YtkegepoihkhihaaGreat
open Go Go.AV Go.M
attribute [local irreducible] OpW OpA OpS AWP FSpec ESpec GSpec OpE RetOk RetOkG RvDen Le Ev GuardIs SrcIs Int.tmod Int.tdiv IntKind.wrap
theorem Ah4 (w : TWrite) (os : List TWrite) (rs : List Str) (hs : os.length ≤ 4611686018427387903) (ha : adj wLess os = true) : FSpec Tryz.prog 218 [AV.agg w.cs, AV.eptr [AV.list 3 (os.map TWrite.cs)], AV.eptr [strs rs]] (AV.bool (hasK os w.Key || hasS rs w.Key)) := by
 have hwh := BA1 ha w.Key
 refine E9 Tryz.func218 rfl Tryz.ntmps218 rfl ?_
 refine A3 (A2 ?_)
 refine O3 rfl rfl rfl rfl (A0 rfl) ?_
 intro b3
 refine A1 rfl (B7 rfl F8) ?_
 refine A4 (A3 (A2 ?_))
 refine A1 rfl (N9 rfl (A0 rfl) M1 rfl) ?_
 refine A1 rfl (B1 0 rfl H0 rfl E5 (A0 rfl) rfl) ?_
 refine A1 rfl (B0 0 rfl (A0 rfl) rfl F7 rfl) ?_
 refine A1 rfl (E8 rfl Tryz.call219 rfl (AZ9 _ _ (by omega)) (A7 (A0 rfl) (A7 (A0 rfl) C6))) ?_
 refine A5 rfl ?_
 refine A1 rfl (I8 rfl (A0 rfl) rfl) ?_
 refine A1 rfl (I8 rfl (A0 rfl) rfl) ?_
 refine B5 rfl ?_
 refine B5 rfl ?_
 refine A4 (A3 (A2 ?_))
 refine A5 rfl ?_
 refine A5 rfl ?_
 refine H8 rfl (fun hc => N9 rfl (A0 rfl) P1 rfl) ?_
 refine H8 rfl (fun hc => B1 0 rfl H0 rfl E5 (A0 rfl) rfl) ?_
 refine H8 rfl (fun hc => B0 0 rfl (A6 rfl hc) rfl F7 rfl) ?_
 refine H8 rfl (fun hc => E8 rfl Tryz.call220 rfl (AJ9 _ _) (A7 (A6 rfl hc) (A7 (A6 rfl hc) C6))) ?_
 refine A1 rfl (R5 rfl (A0 rfl) (F9 rfl)) ?_
 refine B5 rfl ?_
 refine A4 ?_
 refine C5 ?_
 exact H9 rfl (B8 rfl (by exact congrArg AV.bool (by rw [hwh]; rfl)))
theorem AM6 (ws : List TWrite) (rs : List Str) (os : List TWrite) (hs : os.length ≤ 4611686018427387903) (ha : adj wLess os = true) : FSpec Tryz.prog 187 [AV.list 3 (ws.map TWrite.cs), strs rs, AV.list 3 (os.map TWrite.cs)] (AV.bool (overlap ws rs os)) := by
 refine E9 Tryz.func187 rfl Tryz.ntmps187 rfl ?_
 refine A3 (A2 ?_)
 refine Ar3 rfl rfl rfl rfl (A0 rfl) (AR5 _ _) ?_
 intro b4
 refine Ar3 rfl rfl rfl rfl (A0 rfl) (AR5 _ _) ?_
 intro b5
 refine A1 rfl (B7 rfl F8) ?_
 refine A4 (A3 (A2 ?_))
 refine A5 rfl ?_
 refine A1 rfl (w_clo rfl rfl (A7 (A0 rfl) (A7 (A0 rfl) C6))) ?_
 refine A1 rfl (f7 rfl Tryz.call141 rfl (e8 _ _ _ (by first | (intros; trivial) | assumption | (intros; first | trivial | (simp_all; done)))) (D5 _) (P3 (evb (A0 rfl)) (P3 (AH1 (Aj7 0 1 (A0 rfl) rfl rfl) (AR7 Tryz.call218 (fun w (_ : True) => Ah4 w _ _ (by first | assumption | omega) (by assumption)))) X3))) ?_
 refine B5 rfl ?_
 refine A4 ?_
 refine C5 ?_
 exact H9 rfl (B8 rfl (by first | rfl | (refine congrArg AV.bool ?_; simp_all; done)))
theorem Aw0 (h k : THeld) (h1 : h.Writes.length ≤ 4611686018427387903) (k1 : k.Writes.length ≤ 4611686018427387903) (ha : adj wLess h.Writes = true) (ka : adj wLess k.Writes = true) : FSpec Tryz.prog 140 [AV.agg h.cs, AV.agg k.cs] (AV.bool (clash h k)) := by
 refine E9 Tryz.func140 rfl Tryz.ntmps140 rfl ?_
 refine A3 (A2 ?_)
 refine O3 rfl rfl rfl rfl (A0 rfl) ?_
 intro b2
 refine O3 rfl rfl rfl rfl (A0 rfl) ?_
 intro b3
 refine A1 rfl (B7 rfl F8) ?_
 refine A4 (A3 (A2 ?_))
 refine A1 rfl (B1 4 rfl F5 rfl K2 (A0 rfl) rfl) ?_
 refine A1 rfl (B0 1 rfl (A0 rfl) rfl M1 rfl) ?_
 refine A1 rfl (B1 3 rfl F5 rfl N0 (A0 rfl) rfl) ?_
 refine A1 rfl (B0 0 rfl (A0 rfl) rfl P1 rfl) ?_
 refine A1 rfl (B1 4 rfl F5 rfl K2 (A0 rfl) rfl) ?_
 refine A1 rfl (B0 0 rfl (A0 rfl) rfl M1 rfl) ?_
 refine A1 rfl (E8 rfl Tryz.call187 rfl (AM6 _ _ _ (by first | assumption | omega) (by assumption)) (A7 (A0 rfl) (A7 (A0 rfl) (A7 (A0 rfl) C6)))) ?_
 refine A5 rfl ?_
 refine H8 rfl (fun hc => B1 4 rfl F5 rfl K2 (A0 rfl) rfl) ?_
 refine H8 rfl (fun hc => B0 0 rfl (A6 rfl hc) rfl M1 rfl) ?_
 refine H8 rfl (fun hc => B1 3 rfl F5 rfl N0 (A0 rfl) rfl) ?_
 refine H8 rfl (fun hc => B0 1 rfl (A6 rfl hc) rfl P1 rfl) ?_
 refine H8 rfl (fun hc => B1 4 rfl F5 rfl K2 (A0 rfl) rfl) ?_
 refine H8 rfl (fun hc => B0 1 rfl (A6 rfl hc) rfl M1 rfl) ?_
 refine H8 rfl (fun hc => E8 rfl Tryz.call187 rfl (AM6 _ _ _ (by first | assumption | omega) (by assumption)) (A7 (A6 rfl hc) (A7 (A6 rfl hc) (A7 (A6 rfl hc) C6)))) ?_
 refine A1 rfl (R5 rfl (A0 rfl) (F9 rfl)) ?_
 refine B5 rfl ?_
 refine A4 ?_
 refine C5 ?_
 exact H9 rfl (B8 rfl (by first | rfl | (refine congrArg AV.bool ?_; simp_all; done)))
theorem rec_spec (h : THeld) : FSpec Tryz.prog 137 [AV.agg h.cs] (AV.agg (hRec h).cs) := by
 refine E9 Tryz.func137 rfl Tryz.ntmps137 rfl ?_
 refine A3 (A2 ?_)
 refine O3 rfl rfl rfl rfl (A0 rfl) ?_
 intro b1
 refine G3 rfl rfl rfl rfl Tryz.zeroValue104 rfl ?_
 intro b2
 refine A4 (A3 (A2 ?_))
 refine A1 rfl (B1 0 rfl F5 rfl B4 (A0 rfl) rfl) ?_
 refine A1 rfl (B0 1 rfl (A0 rfl) rfl C2 rfl) ?_
 refine A1 rfl (B1 1 rfl F5 rfl B4 (A0 rfl) rfl) ?_
 refine A1 rfl (B0 1 rfl (A0 rfl) rfl C2 rfl) ?_
 refine A1 rfl (B1 2 rfl F5 rfl B4 (A0 rfl) rfl) ?_
 refine A1 rfl (B0 1 rfl (A0 rfl) rfl C2 rfl) ?_
 refine A1 rfl (B1 3 rfl F5 rfl N0 (A0 rfl) rfl) ?_
 refine A1 rfl (B0 1 rfl (A0 rfl) rfl P1 rfl) ?_
 refine A1 rfl (B1 4 rfl F5 rfl K2 (A0 rfl) rfl) ?_
 refine A1 rfl (B0 1 rfl (A0 rfl) rfl M1 rfl) ?_
 refine A1 rfl (P0 (places := #[(0, 1), (1, 1), (2, 1), (3, 1), (4, 1), (5, 1), (6, 1)]) rfl B3 Tryz.zeroValue104 (fun w => by kernel_rfl) rfl (D3 B6 (K4 _ _) (D3 (A0 rfl) (K4 _ _) (D3 (A0 rfl) (K4 _ _) (D3 (A0 rfl) (K4 _ _) (D3 (A0 rfl) (U8 _ _) (D3 (A0 rfl) (U8 _ _) I2)))))) rfl) ?_
 refine D7 0 rfl rfl rfl (A0 rfl) (A0 rfl) (F0 _) rfl G1 rfl ?_
 refine A4 ?_
 refine C5 ?_
 exact H9 rfl (M2 (ys := _) 0 rfl rfl N1 G1 rfl)
theorem Am4 {l : List TCell} {h : List THeld} (a b : Nat) (hl : sizeL TCell.size l ≤ 1048576) (hh : sizeL THeld.size h ≤ 1048576) : (cKeys (l.take a) ++ wKeys (hWs (h.take b))).length ≤ 2097152 := by
  have h1 := O2 (f := TCell.size) (l := l)
  have h2 := Aa2 (l := h.take b)
  have h3 := Ah3 (f := THeld.size) (l := h) b
  unfold cKeys wKeys
  simp only [H5, A9, E4]
  omega
theorem BA3 (s : TState) (held : List THeld) (hg : goodCells s.Cells = true) (hs : s.size ≤ 1048576) (hh : sizeL THeld.size held ≤ 1048576) : FSpec Tryz.prog 143 [AV.agg s.cs, AV.list 5 (held.map THeld.cs)] (AV.bool (decide (held.length ≤ 12) && room s.Cells (hWs held))) := by
 obtain ⟨hs1, hs2, hs3, hs4, hs5⟩ := W1 hs
 have hca := (Q8 hg).2.1
 have hhl := O2 (f := THeld.size) (l := held)
 obtain ⟨p, hp⟩ : ∃ p : TWrite → Bool, p = fun w => !fullC s.Cells w.Key := ⟨_, rfl⟩
 refine E9 Tryz.func143 rfl Tryz.ntmps143 rfl ?_
 refine A3 (A2 ?_)
 refine O3 rfl rfl rfl rfl (A0 rfl) ?_
 intro b2
 refine A1 rfl (B7 rfl F8) ?_
 refine A4 (A3 (A2 ?_))
 refine U3 rfl rfl rfl rfl E7 E5 ?_
 intro v14
 refine B5 rfl ?_
 refine A4 (A3 (A3 (A2 ?_)))
 refine A1 rfl (B1 1 rfl C0 rfl N2 (A0 rfl) rfl) ?_
 refine A1 rfl (B0 1 rfl (A0 rfl) rfl O9 rfl) ?_
 refine A1 rfl (H2 rfl C7 (A0 rfl)) ?_
 refine A1 rfl (B9 rfl B6) ?_
 refine A4 (D1 ?_)
 refine Z4 [(1, _), (2, _), (4, _), (16, _), (17, _)] _ (fun (i : Nat) (v : Value) (ks : List Str) => i ≤ s.Cells.length ∧ ks = cKeys (s.Cells.take i)) (fun (i : Nat) (v : Value) (ks : List Str) => [.arr v 9 1 (ks.map fun k => [AV.str k])]) (fun (i : Nat) (v : Value) (ks : List Str) => [(5, AV.is v), (18, AV.int i)]) (fun (i : Nat) (v : Value) (ks : List Str) => s.Cells.length - i) (0) (v14) ([]) ?_ (S6 (by rfl) ⟨rfl, rfl, rfl, rfl, rfl, rfl, rfl, trivial⟩) ?_
 ·exact ⟨Nat.zero_le _, rfl⟩
 intro i v ks hinv
 refine A3 (A2 ?_)
 refine A1 rfl (K5 rfl (A0 rfl) (A0 rfl)) ?_
 refine A4 (A3 ?_)
 refine C4 (A0 rfl) ?_ ?_
 ·intro h19
  have k19 := of_decide_eq_true h19; try simp only [A9] at k19
  have hlt : i < s.Cells.length := by omega
  obtain ⟨c, hx⟩ := get_some hlt
  have hkl : ks.length ≤ 1048576 := by rw [hinv.2]; unfold cKeys; rw [A9, E4]; omega
  refine C8 (A3 (D1 (A3 (A2 ?_))))
  refine A1 rfl (J4 rfl C7 E2 (A0 rfl) (A0 rfl) hx (by first | omega | (simp only [C9, A8, szR] at *; omega))) ?_
  refine A1 rfl (L4 rfl (A0 rfl) S7 E2) ?_
  refine G3 rfl rfl rfl rfl Tryz.zeroValue125 rfl ?_
  intro b7
  refine D7 0 rfl rfl rfl (A0 rfl) (A0 rfl) (F0 _) rfl E2 rfl ?_
  refine A4 (A2 ?_)
  refine A5 rfl ?_
  refine A1 rfl (B1 0 rfl F4 rfl E5 (A0 rfl) rfl) ?_
  refine A1 rfl (B0 0 rfl (A0 rfl) rfl F7 rfl) ?_
  refine A1 rfl (L2 rfl E7 E5 Tryz.zeroValue9 rfl rfl rfl rfl (D3 (A0 rfl) (O5 _) I2) rfl rfl) ?_
  refine N3 (by' := 16) 1 rfl rfl rfl rfl E7 Tryz.type9 rfl rfl rfl rfl rfl rfl (A0 rfl) (A0 rfl) rfl (by first | omega | (simp only [C9, A8, szR] at *; omega)) ?_
  intro v26_1
  refine B5 rfl ?_
  refine A4 (A2 ?_)
  refine A1 rfl (G7 rfl (A0 rfl) B6 (by first | omega | (simp only [C9, A8, szR] at *; omega))) ?_
  refine A5 rfl ?_
  refine A4 ?_
  refine X0 i v ks (i + 1) (v26_1) (ks ++ [c.Key]) ?_ ?_ (L5 1 (by (rw [List.map_append]; rfl)) ⟨rfl, rfl, rfl, rfl, rfl, rfl, rfl, trivial⟩)
  ·exact ⟨by omega, by rw [hinv.2]; unfold cKeys; rw [List.take_add_one, hx, List.map_append]; rfl⟩
  omega
 intro h19
 have k19 := of_decide_eq_false h19; try simp only [A9] at k19
 have hge : s.Cells.length ≤ i := by omega
 have hks : ks = cKeys s.Cells := by rw [hinv.2, List.take_of_length_le hge]
 refine G9 ?_
 refine A3 (A3 (A2 ?_))
 refine A5 rfl ?_
 refine A1 rfl (H2 rfl E0 (A0 rfl)) ?_
 refine A1 rfl (B9 rfl B6) ?_
 refine A4 (D1 ?_)
 refine Z4 [(1, _), (2, _), (28, _), (29, _)] _ (fun (q : Nat) (v1 : Value) (k1 : List Str) => q ≤ held.length ∧ k1 = cKeys s.Cells ++ wKeys (hWs (held.take q)) ∧ (hWs held).all p = (hWs (held.drop q)).all p) (fun (q : Nat) (v1 : Value) (k1 : List Str) => [.arr v1 9 1 (k1.map fun k => [AV.str k])]) (fun (q : Nat) (v1 : Value) (k1 : List Str) => [(5, AV.is v1), (30, AV.int q)]) (fun (q : Nat) (v1 : Value) (k1 : List Str) => held.length - q) (0) (v) (ks) ?_ (S6 (by rfl) ⟨rfl, rfl, rfl, rfl, rfl, rfl, trivial⟩) ?_
 ·exact ⟨Nat.zero_le _, by rw [hks, List.take_zero]; simp [hWs, wKeys], rfl⟩
 intro q v1 k1 hinv
 refine A3 (A2 ?_)
 refine A1 rfl (K5 rfl (A0 rfl) (A0 rfl)) ?_
 refine A4 (A3 ?_)
 refine C4 (A0 rfl) ?_ ?_
 ·intro h31
  have k31 := of_decide_eq_true h31; try simp only [A9] at k31
  have hlt : q < held.length := by omega
  obtain ⟨h, hh0⟩ := get_some hlt
  obtain ⟨g1, g2, g3, g4, g5⟩ := X8 hh hh0
  have hinv1 := hinv
  refine C8 (A3 (D1 (A3 (A2 ?_))))
  refine A1 rfl (J4 rfl E0 D4 (A0 rfl) (A0 rfl) hh0 (by first | omega | (simp only [C9, A8, szR] at *; omega))) ?_
  refine A1 rfl (L4 rfl (A0 rfl) J3 D4) ?_
  refine G3 rfl rfl rfl rfl Tryz.zeroValue141 rfl ?_
  intro b9
  refine D7 0 rfl rfl rfl (A0 rfl) (A0 rfl) (F0 _) rfl D4 rfl ?_
  refine A4 (A3 (A2 ?_))
  refine A1 rfl (B1 4 rfl F5 rfl K2 (A0 rfl) rfl) ?_
  refine A1 rfl (B0 0 rfl (A0 rfl) rfl M1 rfl) ?_
  refine A1 rfl (H2 rfl G0 (A0 rfl)) ?_
  refine A1 rfl (B9 rfl B6) ?_
  refine A4 (D1 ?_)
  refine AWP.le (H4 [1] rfl) ?_
  refine Z4 [(1, _), (2, _), (9, _), (28, _), (29, _), (30, _), (31, _), (32, _), (33, _), (34, _), (35, _), (36, _)] _ (fun (r : Nat) (v2 : Value) (k2 : List Str) => r ≤ h.Writes.length ∧ k2 = k1 ++ wKeys (h.Writes.take r) ∧ h.Writes.all p = (h.Writes.drop r).all p) (fun (r : Nat) (v2 : Value) (k2 : List Str) => [.arr v2 9 1 (k2.map fun k => [AV.str k])]) (fun (r : Nat) (v2 : Value) (k2 : List Str) => [(5, AV.is v2), (37, AV.int r)]) (fun (r : Nat) (v2 : Value) (k2 : List Str) => h.Writes.length - r) (0) (v1) (k1) ?_ (S6 (by rfl) ⟨rfl, rfl, rfl, rfl, rfl, rfl, rfl, rfl, rfl, rfl, rfl, rfl, rfl, rfl, trivial⟩) ?_
  ·exact ⟨Nat.zero_le _, by simp [wKeys], rfl⟩
  intro r v2 k2 hinv
  refine A3 (A2 ?_)
  refine A1 rfl (K5 rfl (A0 rfl) (A0 rfl)) ?_
  refine A4 (A3 ?_)
  refine C4 (A0 rfl) ?_ ?_
  ·intro h38
   have k38 := of_decide_eq_true h38; try simp only [A9] at k38
   have hlt2 : r < h.Writes.length := by omega
   obtain ⟨w, hw⟩ := get_some hlt2
   obtain ⟨c, hc0⟩ := AB1 s.Cells (cPos s.Cells w.Key)
   have hc1 : cHas s.Cells w.Key = true → s.Cells[cPos s.Cells w.Key]? = some c := fun e => by (obtain ⟨y, hy, _⟩ := s7.1 e; exact hc0 (List.getElem?_eq_some_iff.1 hy).1)
   have hfu := BA2 hca hc1
   have hk2l : k2.length ≤ 3145728 := by rw [hinv.2.1, hinv1.2.1]; have := Am4 s.Cells.length q hs1 hh; rw [List.take_length] at this; unfold wKeys at this ⊢; simp only [H5, A9, E4] at this ⊢; omega
   refine C8 (A3 (D1 (A3 (A2 ?_))))
   refine A1 rfl (J4 rfl G0 H6 (A0 rfl) (A0 rfl) hw (by first | omega | (simp only [C9, A8, szR] at *; omega))) ?_
   refine A1 rfl (L4 rfl (A0 rfl) T9 H6) ?_
   refine G3 rfl rfl rfl rfl Tryz.zeroValue101 rfl ?_
   intro b11
   refine D7 0 rfl rfl rfl (A0 rfl) (A0 rfl) (F0 _) rfl H6 rfl ?_
   refine A4 (A3 (A3 (A2 ?_)))
   refine A1 rfl (B1 1 rfl C0 rfl N2 (A0 rfl) rfl) ?_
   refine A1 rfl (B0 3 rfl (A0 rfl) rfl O9 rfl) ?_
   refine A1 rfl (B1 0 rfl H0 rfl E5 (A0 rfl) rfl) ?_
   refine A1 rfl (B0 0 rfl (A0 rfl) rfl F7 rfl) ?_
   refine A1 rfl (E8 rfl Tryz.call122 rfl (z7 s.Cells w.Key (by omega)) (A7 (A0 rfl) (A7 (A0 rfl) C6))) ?_
   refine A5 rfl ?_
   refine A1 rfl (I8 rfl (A0 rfl) rfl) ?_
   refine A1 rfl (I8 rfl (A0 rfl) rfl) ?_
   refine B5 rfl ?_
   refine B5 rfl ?_
   refine A4 (A3 (A2 ?_))
   refine A5 rfl ?_
   refine A5 rfl ?_
   refine D0 rfl (fun hc => B1 1 rfl C0 rfl N2 (A0 rfl) rfl) ?_
   refine D0 rfl (fun hc => B0 3 rfl (A6 rfl hc) rfl O9 rfl) ?_
   refine D0 rfl (fun hc => B9 rfl (A0 rfl)) ?_
   refine D0 rfl (fun hc => p8 rfl C7 E2 (A6 rfl hc) (A6 rfl hc) (by have := (List.getElem?_eq_some_iff.1 (hc1 hc)).1; omega) (by rw [Int.toNat_natCast, List.getElem?_map, hc1 hc]; rfl)) ?_
   refine D0 rfl (fun hc => V7 rfl F4 rfl K1 (A6 rfl hc) rfl) ?_
   refine D0 rfl (fun hc => N9 rfl (A6 rfl hc) N5 rfl) ?_
   refine D0 rfl (fun hc => H2 rfl G8 (A6 rfl hc)) ?_
   refine D0 rfl (fun hc => c6 rfl (A6 rfl hc) B6) ?_
   refine A1 rfl (I1 rfl (A0 rfl) (F9 rfl)) ?_
   refine A4 ?_
   refine C4 (A0 rfl) ?_ ?_
   ·intro h59
    have hpw : p w = false := by rw [hp]; simp only [Bool.not_eq_false']; rw [hfu]; simpa using h59
    have hro : room s.Cells (hWs held) = false := by (unfold room; rw [show ((hWs held).all fun w => !fullC s.Cells w.Key) = false from by rw [← hp, hinv1.2.2, drop_some hh0, AB7, List.all_append, hinv.2.2, drop_some hw, List.all_cons, hpw]; rfl]; rfl)
    refine A3 (A2 ?_)
    refine A1 rfl (B7 rfl F8) ?_
    refine A4 ?_
    refine C5 ?_
    exact H9 rfl (B8 rfl (by first | exact congrArg AV.bool (by rw [hro]; simp) | exact congrArg AV.bool (by rw [hre, Bool.eq_iff_iff]; simp only [Bool.and_eq_true, decide_eq_true_eq, decide_eq_false_iff_not, A9, Bool.false_eq_true, and_false, false_and, false_iff] at *; omega)))
   intro h59
   have hpw : p w = true := by rw [hp]; simp only [Bool.not_eq_true']; rw [hfu]; simpa using h59
   refine C8 (A2 ?_)
   refine A5 rfl ?_
   refine A1 rfl (B1 0 rfl H0 rfl E5 (A0 rfl) rfl) ?_
   refine A1 rfl (B0 0 rfl (A0 rfl) rfl F7 rfl) ?_
   refine A1 rfl (L2 rfl E7 E5 Tryz.zeroValue9 rfl rfl rfl rfl (D3 (A0 rfl) (O5 _) I2) rfl rfl) ?_
   refine N3 (by' := 16) 1 rfl rfl rfl rfl E7 Tryz.type9 rfl rfl rfl rfl rfl rfl (A0 rfl) (A0 rfl) rfl (by first | omega | (simp only [C9, A8, szR] at *; omega)) ?_
   intro v64_2
   refine B5 rfl ?_
   refine A4 (A2 ?_)
   refine A1 rfl (G7 rfl (A0 rfl) B6 (by first | omega | (simp only [C9, A8, szR] at *; omega))) ?_
   refine A5 rfl ?_
   refine A4 ?_
   refine X0 r v2 k2 (r + 1) (v64_2) (k2 ++ [w.Key]) ?_ ?_ (Le.trans (H4 [0, 0] rfl) (L5 1 (by (rw [List.map_append]; rfl)) ⟨rfl, rfl, rfl, rfl, rfl, rfl, rfl, rfl, rfl, rfl, rfl, rfl, rfl, rfl, trivial⟩))
   ·exact ⟨by omega, by rw [hinv.2.1]; unfold wKeys; rw [List.take_add_one, hw, List.map_append, List.append_assoc]; rfl, by rw [hinv.2.2, drop_some hw, List.all_cons, hpw]; rfl⟩
   omega
  intro h38
  have k38 := of_decide_eq_false h38; try simp only [A9] at k38
  have hge2 : h.Writes.length ≤ r := by omega
  have hk2 : k2 = k1 ++ wKeys h.Writes := by rw [hinv.2.1, List.take_of_length_le hge2]
  have hal : h.Writes.all p = true := by rw [hinv.2.2, List.drop_eq_nil_of_le hge2]; rfl
  refine G9 ?_
  refine A2 ?_
  refine A1 rfl (G7 rfl (A0 rfl) B6 (by first | omega | (simp only [C9, A8, szR] at *; omega))) ?_
  refine A5 rfl ?_
  refine A4 ?_
  refine X0 q v1 k1 (q + 1) (v2) (k2) ?_ ?_ (Le.trans (H4 [1, 0] rfl) (L5 1 (by rfl) ⟨rfl, rfl, rfl, rfl, rfl, rfl, trivial⟩))
  ·exact ⟨by omega, by rw [hk2, hinv1.2.1, Am2 hh0]; simp [wKeys], by rw [hinv1.2.2, drop_some hh0, AB7, List.all_append, hal]; rfl⟩
  omega
 intro h31
 have k31 := of_decide_eq_false h31; try simp only [A9] at k31
 have hge : held.length ≤ q := by omega
 have hk9 : k1 = cKeys s.Cells ++ wKeys (hWs held) := by rw [hinv.2.1, List.take_of_length_le hge]
 have hal9 : (hWs held).all p = true := by rw [hinv.2.2, List.drop_eq_nil_of_le hge]; rfl
 have hln := Am4 s.Cells.length held.length hs1 hh
 rw [List.take_length, List.take_length, ← hk9] at hln
 have hre : room s.Cells (hWs held) = decide ((cmpL (sortS k1)).length ≤ 24) := by (unfold room roomKs keysI; rw [← hp, hal9, ← hk9]; rfl)
 refine G9 ?_
 refine A3 (A2 ?_)
 refine A5 rfl ?_
 refine J9 [0] rfl rfl rfl rfl Tryz.call189 rfl (Am1 _ k1 (by omega)) (A7 (A0 rfl) C6) rfl ?_
 intro x68 ok68
 refine A4 (A3 (A2 ?_))
 refine A5 rfl ?_
 refine A1 rfl (H2 rfl E0 (A0 rfl)) ?_
 refine A1 rfl (V0 rfl (A0 rfl) B6) ?_
 refine A5 rfl ?_
 refine D0 rfl (fun hc => B9 rfl (A0 rfl)) ?_
 refine AB9 rfl rfl (H1 rfl rfl rfl) ?_ ?_
 ·intro gh74
  refine J9 [0] rfl rfl rfl rfl Tryz.call190 rfl (Aa1 _ (sortS k1) (by rw [AL2]; omega)) (A7 (A6 rfl gh74) C6) rfl ?_
  intro x74 ok74
  refine D0 rfl (fun hc => V8 0 rfl E7 (A0 rfl) rfl) ?_
  refine D0 rfl (fun hc => V0 rfl (A6 rfl hc) B6) ?_
  refine A1 rfl (I1 rfl (A0 rfl) (F9 rfl)) ?_
  refine B5 rfl ?_
  refine A4 ?_
  refine C5 ?_
  exact H9 rfl (B8 rfl (by first | exact congrArg AV.bool (by rw [hro]; simp) | exact congrArg AV.bool (by rw [hre, Bool.eq_iff_iff]; simp only [Bool.and_eq_true, decide_eq_true_eq, decide_eq_false_iff_not, A9, Bool.false_eq_true, and_false, false_and, false_iff] at *; omega)))
 intro gh74
 refine AB9 rfl rfl (H1 rfl rfl rfl) (fun hq => by rw [gh74] at hq; cases hq) (fun _ => ?_)
 refine AB9 rfl rfl (H1 rfl rfl rfl) (fun hq => by rw [gh74] at hq; cases hq) (fun _ => ?_)
 refine A1 rfl (I1 rfl (A0 rfl) (As8 (x := AV.bool false) gh74)) ?_
 refine B5 rfl ?_
 refine A4 ?_
 refine C5 ?_
 exact H9 rfl (B8 rfl (by first | exact congrArg AV.bool (by rw [hro]; simp) | exact congrArg AV.bool (by rw [hre, Bool.eq_iff_iff]; simp only [Bool.and_eq_true, decide_eq_true_eq, decide_eq_false_iff_not, A9, Bool.false_eq_true, and_false, false_and, false_iff] at *; omega)))
theorem Ah5 (h k : THeld) (h1 : h.Writes.length ≤ 4611686018427387903) (ha : adj wLess h.Writes = true) (hk : adj wLess k.Writes = true ∧ k.Writes.length ≤ 4611686018427387903) : FSpec Tryz.prog 139 [AV.agg k.cs, AV.eptr h.cs] (AV.bool (clash h k)) := by
 obtain ⟨ka, k1⟩ := hk
 refine E9 Tryz.func139 rfl Tryz.ntmps139 rfl ?_
 refine A3 (A2 ?_)
 refine O3 rfl rfl rfl rfl (A0 rfl) ?_
 intro b2
 refine A1 rfl (B7 rfl F8) ?_
 refine A4 (A3 (A2 ?_))
 refine A1 rfl (L4 rfl (A0 rfl) J3 D4) ?_
 refine A1 rfl (G5 0 rfl (A0 rfl) rfl J3 D4 rfl) ?_
 refine A1 rfl (E8 rfl Tryz.call140 rfl (Aw0 _ _ (by first | assumption | omega) (by first | assumption | omega) (by assumption) (by assumption)) (A7 (A0 rfl) (A7 (A0 rfl) C6))) ?_
 refine B5 rfl ?_
 refine A4 ?_
 refine C5 ?_
 exact H9 rfl (B8 rfl (by first | rfl | (refine congrArg AV.bool ?_; simp_all; done)))
theorem Ah6 (h : THeld) (s : TState) (w : TWrite) (ho : CellsOk s.Cells) (hs : sizeL TCell.size s.Cells ≤ 1048576) : FSpec Tryz.prog 142 [AV.agg w.cs, AV.eptr h.cs, AV.eptr s.cs] (AV.bool (decide (h.Time ≤ lastTime s.Cells w.Key))) := by
 refine E9 Tryz.func142 rfl Tryz.ntmps142 rfl ?_
 refine A3 (A2 ?_)
 refine O3 rfl rfl rfl rfl (A0 rfl) ?_
 intro b3
 refine A1 rfl (B7 rfl F8) ?_
 refine A4 (A3 ?_)
 refine J5 (by kernel_rfl) (by kernel_rfl) rfl ?_
 refine B2 rfl rfl (V7 rfl F5 rfl B4 (A0 rfl) rfl) ?_
 refine B2 rfl rfl (N9 rfl (A0 rfl) C2 rfl) ?_
 refine B2 rfl rfl (V7 rfl C0 rfl N2 (A0 rfl) rfl) ?_
 refine B2 rfl rfl (N9 rfl (A0 rfl) O9 rfl) ?_
 refine B2 rfl rfl (B1 0 rfl H0 rfl E5 (A0 rfl) rfl) ?_
 refine B2 rfl rfl (B0 0 rfl (A0 rfl) rfl F7 rfl) ?_
 refine B2 rfl rfl (E8 rfl Tryz.call92 rfl (z8 _ _ (by first | assumption | exact W9 (by assumption)) (by first | assumption | omega)) (A7 (A0 rfl) (A7 (A0 rfl) C6))) ?_
 refine B2 rfl rfl (V0 rfl (A0 rfl) (A0 rfl)) ?_
 refine B2 rfl rfl (B7 rfl (A0 rfl)) ?_
 refine P2 ?_
 refine C5 ?_
 exact H9 rfl (B8 rfl (by first | rfl | (refine congrArg AV.bool ?_; simp_all; done)))
theorem Am5 (s : TState) (hg : goodCells s.Cells = true) (hs : s.size ≤ 1048576) : FSpec Tryz.prog 91 [AV.agg s.cs] (AV.bool (areHeld s)) := by
 obtain ⟨hs1, hs2, hs3, hs4, hs5⟩ := W1 hs
 have hco := W9 hg
 refine E9 Tryz.func91 rfl Tryz.ntmps91 rfl ?_
 refine A3 (A2 ?_)
 refine O3 rfl rfl rfl rfl (A0 rfl) ?_
 intro b1
 refine A1 rfl (B7 rfl F8) ?_
 refine A4 (A3 (A3 (A2 ?_)))
 refine A1 rfl (B1 2 rfl C0 rfl G4 (A0 rfl) rfl) ?_
 refine A1 rfl (B0 0 rfl (A0 rfl) rfl L8 rfl) ?_
 refine A1 rfl (H2 rfl E0 (A0 rfl)) ?_
 refine A1 rfl (B9 rfl B6) ?_
 refine A4 (D1 ?_)
 refine J6 [(1, _), (6, _), (7, _)] _ (fun (i : Nat) => i ≤ s.Held.length ∧ ∀ j, j < i → heldAt s j = true) (fun (i : Nat) => []) (fun (i : Nat) => [(8, AV.int i)]) (fun (i : Nat) => s.Held.length - i) (0) ?_ (K0 ⟨rfl, rfl, rfl, rfl, trivial⟩) ?_
 ·exact ⟨Nat.zero_le _, fun j hj => by omega⟩
 intro i hinv
 refine A3 (A2 ?_)
 refine A1 rfl (K5 rfl (A0 rfl) (A0 rfl)) ?_
 refine A4 (A3 ?_)
 refine C4 (A0 rfl) ?_ ?_
 ·intro h9
  have k9 := of_decide_eq_true h9; try simp only [A9] at k9
  have hlt : i < s.Held.length := by omega
  obtain ⟨h, hx⟩ := get_some hlt
  obtain ⟨y, hy⟩ := get_some (show i - 1 < s.Held.length by omega)
  obtain ⟨g1, g2, g3, g4, g5⟩ := X8 hs2 hx
  refine C8 (A3 (D1 (A3 (A2 ?_))))
  refine A5 rfl ?_
  refine A1 rfl (J4 rfl E0 D4 (A0 rfl) (A0 rfl) hx (by first | omega | (simp only [C9, A8, szR] at *; omega))) ?_
  refine A1 rfl (L4 rfl (A0 rfl) J3 D4) ?_
  refine G3 rfl rfl rfl rfl Tryz.zeroValue141 rfl ?_
  intro b4
  refine B5 rfl ?_
  refine D7 0 rfl rfl rfl (A0 rfl) (A0 rfl) (F0 _) rfl D4 rfl ?_
  refine A4 (A3 (A3 ?_))
  refine J5 (by kernel_rfl) (by kernel_rfl) rfl ?_
  refine B2 rfl rfl (G5 0 rfl (A0 rfl) rfl J3 D4 rfl) ?_
  refine B2 rfl rfl (E8 rfl Tryz.call137 rfl (rec_spec _) (A7 (A0 rfl) C6)) ?_
  refine B2 rfl rfl (E8 rfl Tryz.call136 rfl (Al8 _ (by first | assumption | omega)) (A7 (A0 rfl) C6)) ?_
  refine B2 rfl rfl (M5 rfl (A0 rfl)) ?_
  refine B2 rfl rfl (B9 rfl (A0 rfl)) ?_
  refine D2 rfl (I4 rfl rfl rfl) (fun hc => B1 1 rfl F5 rfl B4 (A0 rfl) rfl) ?_
  refine D2 rfl (I4 rfl rfl rfl) (fun hc => B0 0 rfl (A6 rfl hc) rfl C2 rfl) ?_
  refine D2 rfl (I4 rfl rfl rfl) (fun hc => B1 0 rfl C0 rfl B4 (A0 rfl) rfl) ?_
  refine D2 rfl (I4 rfl rfl rfl) (fun hc => B0 1 rfl (A6 rfl hc) rfl C2 rfl) ?_
  refine D2 rfl (I4 rfl rfl rfl) (fun hc => O8 rfl (A6 rfl hc) (A6 rfl hc)) ?_
  refine B2 rfl rfl (R5 rfl (A0 rfl) (F9 rfl)) ?_
  refine B2 rfl rfl (B9 rfl (A0 rfl)) ?_
  refine D2 rfl (I4 rfl rfl rfl) (fun hc => B9 rfl (A0 rfl)) ?_
  refine D2 rfl (I4 rfl rfl rfl) (fun hc => O8 rfl (A6 rfl hc) B6) ?_
  refine D2 rfl (I4 rfl rfl rfl) (fun hc => B9 rfl (A6 rfl hc)) ?_
  refine D2 rfl (E1 rfl rfl rfl) (fun hc => B1 0 rfl F5 rfl B4 (A0 rfl) rfl) ?_
  refine D2 rfl (E1 rfl rfl rfl) (fun hc => B0 0 rfl (A6 rfl hc) rfl C2 rfl) ?_
  refine D2 rfl (E1 rfl rfl rfl) (fun hc => B1 2 rfl C0 rfl G4 (A0 rfl) rfl) ?_
  refine D2 rfl (E1 rfl rfl rfl) (fun hc => B0 1 rfl (A6 rfl hc) rfl L8 rfl) ?_
  refine D2 rfl (E1 rfl rfl rfl) (fun hc => B9 rfl (A0 rfl)) ?_
  refine D2 rfl (E1 rfl rfl rfl) (fun hc => P9 rfl (A6 rfl hc) B6 (by first | omega | ((try simp only [C9, A8, szR] at *); omega) | (have hc2 := hc; simp only [P4, beq_iff_eq, bne_iff_ne, A9, E4] at hc2; omega))) ?_
  refine D2 rfl (E1 rfl rfl rfl) (fun hc => J4 rfl E0 D4 (A6 rfl hc) (A6 rfl hc) hy (by first | omega | ((try simp only [C9, A8, szR] at *); omega) | (have hc2 := hc; simp only [P4, beq_iff_eq, bne_iff_ne, A9, E4] at hc2; omega))) ?_
  refine D2 rfl (E1 rfl rfl rfl) (fun hc => V7 rfl F5 rfl B4 (A6 rfl hc) rfl) ?_
  refine D2 rfl (E1 rfl rfl rfl) (fun hc => N9 rfl (A6 rfl hc) C2 rfl) ?_
  refine D2 rfl (E1 rfl rfl rfl) (fun hc => V0 rfl (A6 rfl hc) (A6 rfl hc)) ?_
  refine D2 rfl (I4 rfl rfl rfl) (fun hc => I1 rfl (A6 rfl hc) (Q0 rfl hc)) ?_
  refine B2 rfl rfl (R5 rfl (A0 rfl) (F9 rfl)) ?_
  refine P2 ?_
  refine C4 (A0 rfl) ?_ ?_
  ·intro h39
   have hfin : areHeld s = false := by (unfold areHeld; rw [Z5 hlt (by rw [y7 hx hy, h39]; rfl)]; rfl)
   refine A3 (A2 ?_)
   refine A1 rfl (B7 rfl F8) ?_
   refine A4 ?_
   refine C5 ?_
   exact H9 rfl (B8 rfl (by first | exact congrArg AV.bool hfin.symm | exact congrArg AV.bool (by unfold areHeld; rw [hall]; rfl)))
  intro h39
  have hgr : goodRec (hRec h) = true := by (simp only [Bool.or_eq_false_iff, Bool.not_eq_false'] at h39; exact h39.1.1)
  have hwa := AT3 hgr
  have hwl : h.Writes.length ≤ 4611686018427387903 := by omega
  have hpre : ∀ g ∈ s.Held.take i, adj wLess g.Writes = true ∧ g.Writes.length ≤ 4611686018427387903 := fun g hm => by (obtain ⟨j, hj⟩ := List.getElem?_of_mem hm; have hjl := (List.getElem?_eq_some_iff.1 hj).1; rw [E4] at hjl; rw [List.getElem?_take_of_lt (by omega)] at hj; have k1 := X8 hs2 hj; exact ⟨AT3 (AQ6 hj (hinv.2 j (by omega))).1, by omega⟩)
  refine C8 (A3 (A3 (A2 ?_)))
  refine A1 rfl (B1 2 rfl C0 rfl G4 (A0 rfl) rfl) ?_
  refine A1 rfl (B0 1 rfl (A0 rfl) rfl L8 rfl) ?_
  refine A5 rfl ?_
  refine A1 rfl (AC7 rfl E0 D4 (A0 rfl) (A0 rfl) (by first | omega | (simp only [C9, A8, szR] at *; omega)) (by first | omega | (simp only [C9, A8, szR] at *; omega))) ?_
  refine A1 rfl (w_clo rfl rfl (A7 (A0 rfl) C6)) ?_
  refine A1 rfl (f7 rfl Tryz.call138 rfl (AG4 (s.Held.take i) (fun g => adj wLess g.Writes = true ∧ g.Writes.length ≤ 4611686018427387903) (fun g => clash h g) hpre) (D5 _) (P3 (evb (A0 rfl)) (P3 (AH1 (evb_clo1 0 (A0 rfl) rfl) (AR7 Tryz.call139 (fun g hg => Ah5 _ g (by first | assumption | omega) (by assumption) hg))) X3))) ?_
  refine A4 ?_
  refine C4 (A0 rfl) ?_ ?_
  ·intro h45
   have hfin : areHeld s = false := by (unfold areHeld; rw [Z5 hlt (by rw [y7 hx hy, h45]; simp)]; rfl)
   refine A3 (A2 ?_)
   refine A1 rfl (B7 rfl F8) ?_
   refine A4 ?_
   refine C5 ?_
   exact H9 rfl (B8 rfl (by first | exact congrArg AV.bool hfin.symm | exact congrArg AV.bool (by unfold areHeld; rw [hall]; rfl)))
  intro h45
  refine C8 (A3 (A2 ?_))
  refine A1 rfl (B1 4 rfl F5 rfl K2 (A0 rfl) rfl) ?_
  refine A1 rfl (B0 0 rfl (A0 rfl) rfl M1 rfl) ?_
  refine A1 rfl (w_clo rfl rfl (A7 (A0 rfl) (A7 (A0 rfl) C6))) ?_
  refine A1 rfl (f7 rfl Tryz.call141 rfl (e8 _ _ _ (by first | (intros; trivial) | assumption | (intros; first | trivial | (simp_all; done)))) (D5 _) (P3 (evb (A0 rfl)) (P3 (AH1 (Aj7 0 1 (A0 rfl) rfl rfl) (AR7 Tryz.call142 (fun w (_ : True) => Ah6 _ _ w (by assumption) (by first | assumption | omega)))) X3))) ?_
  refine A4 ?_
  refine C4 (A0 rfl) ?_ ?_
  ·intro h49
   have hfin : areHeld s = false := by (unfold areHeld; rw [Z5 hlt (by rw [y7 hx hy, h49]; simp)]; rfl)
   refine A3 (A2 ?_)
   refine A1 rfl (B7 rfl F8) ?_
   refine A4 ?_
   refine C5 ?_
   exact H9 rfl (B8 rfl (by first | exact congrArg AV.bool hfin.symm | exact congrArg AV.bool (by unfold areHeld; rw [hall]; rfl)))
  intro h49
  refine C8 (A2 ?_)
  refine A1 rfl (G7 rfl (A0 rfl) B6 (by first | omega | (simp only [C9, A8, szR] at *; omega))) ?_
  refine A5 rfl ?_
  refine A4 ?_
  refine L9 i (i + 1) ?_ ?_ (U7 1 ⟨rfl, rfl, rfl, rfl, trivial⟩)
  ·exact ⟨by omega, fun j hj => if hji : j < i then hinv.2 j hji else (by have e : j = i := (by omega); subst e; rw [y7 hx hy, h39, h45, h49]; rfl)⟩
  omega
 intro h9
 have k9 := of_decide_eq_false h9; try simp only [A9] at k9
 have hge : s.Held.length ≤ i := by omega
 have hall : allB s.Held.length (heldAt s) = true := l9.2 fun j hj => hinv.2 j (by omega)
 refine G9 ?_
 refine A3 (A2 ?_)
 refine A1 rfl (G5 0 rfl (A0 rfl) rfl E6 C3 rfl) ?_
 refine A1 rfl (B1 2 rfl C0 rfl G4 (A0 rfl) rfl) ?_
 refine A1 rfl (B0 0 rfl (A0 rfl) rfl L8 rfl) ?_
 refine A1 rfl (E8 rfl Tryz.call143 rfl (BA3 _ _ (by assumption) (by first | assumption | omega) (by first | assumption | omega)) (A7 (A0 rfl) (A7 (A0 rfl) C6))) ?_
 refine B5 rfl ?_
 refine A4 ?_
 refine C5 ?_
 exact H9 rfl (B8 rfl (by first | exact congrArg AV.bool hfin.symm | exact congrArg AV.bool (by unfold areHeld; rw [hall]; rfl)))
theorem Aa3 (h : THeld) (n : Int) : FSpec Tryz.prog 145 [AV.agg h.cs, AV.int n] (AV.int (hCmp n h)) := by
 refine E9 Tryz.func145 rfl Tryz.ntmps145 rfl ?_
 refine A3 (A2 ?_)
 refine O3 rfl rfl rfl rfl (A0 rfl) ?_
 intro b2
 refine A1 rfl (B7 rfl B6) ?_
 refine A4 (A3 (A2 ?_))
 refine A1 rfl (B1 0 rfl F5 rfl B4 (A0 rfl) rfl) ?_
 refine A1 rfl (B0 0 rfl (A0 rfl) rfl C2 rfl) ?_
 refine A5 rfl ?_
 refine A1 rfl (E8 rfl Tryz.call104 rfl (AE9 _ _) (A7 (A0 rfl) (A7 (A0 rfl) C6))) ?_
 refine B5 rfl ?_
 refine A4 ?_
 refine C5 ?_
 exact H9 rfl (B8 rfl (by first | rfl | (refine congrArg AV.bool ?_; simp_all; done)))
theorem Am6 (f : Int) (c t : List (List AV)) (l : List THeld) (n : Int) (hs : l.length ≤ 1048576) : FSpec Tryz.prog 94 [AV.agg [AV.int f, AV.list 2 c, AV.list 5 (l.map THeld.cs), AV.list 3 t], AV.int n] (AV.tup [AV.int (hPos l n), AV.bool (hHas l n)]) := by
 refine E9 Tryz.func94 rfl Tryz.ntmps94 rfl ?_
 refine A3 (A2 ?_)
 refine O3 rfl rfl rfl rfl (A0 rfl) ?_
 intro b2
 refine A1 rfl (B7 rfl B6) ?_
 refine A1 rfl (B7 rfl F8) ?_
 refine A4 (A3 (A2 ?_))
 refine A1 rfl (B1 2 rfl C0 rfl G4 (A0 rfl) rfl) ?_
 refine A1 rfl (B0 0 rfl (A0 rfl) rfl L8 rfl) ?_
 refine A5 rfl ?_
 refine A1 rfl (E8 rfl Tryz.call144 rfl (AG6 _ _ _ (by first | (intros; trivial) | assumption | (intros; first | trivial | (simp_all; done))) _ (by omega)) (A7 (A0 rfl) (A7 (A0 rfl) (A7 (AY7 Tryz.call145 (fun h n (_ : True) => Aa3 h n)) C6)))) ?_
 refine A1 rfl (I8 rfl (A0 rfl) rfl) ?_
 refine A1 rfl (I8 rfl (A0 rfl) rfl) ?_
 refine B5 rfl ?_
 refine B5 rfl ?_
 refine A4 ?_
 refine C5 ?_
 exact i6 rfl (by decide) (F2 (B8 rfl (by first | rfl | (refine congrArg AV.bool ?_; simp_all; done))) (F2 (B8 rfl (by first | rfl | (refine congrArg AV.bool ?_; simp_all; done))) L7))
theorem Ah7 (s : TState) (n : Int) (hs : s.Held.length ≤ 1048576) : FSpec Tryz.prog 94 [AV.agg s.cs, AV.int n] (AV.tup [AV.int (hPos s.Held n), AV.bool (hHas s.Held n)]) := Am6 _ _ _ s.Held n hs
theorem Aa4 (s : TState) (hs : s.size ≤ 1048576) : FSpec Tryz.prog 50 [AV.agg s.cs] (AV.bool (goodState s)) := by
 obtain ⟨hs1, hs2, hs3, hs4, hs5⟩ := W1 hs
 refine E9 Tryz.func50 rfl Tryz.ntmps50 rfl ?_
 refine A3 (A2 ?_)
 refine O3 rfl rfl rfl rfl (A0 rfl) ?_
 intro b1
 refine A1 rfl (B7 rfl F8) ?_
 refine A4 (A3 (A3 (A2 ?_)))
 refine A1 rfl (B1 0 rfl C0 rfl B4 (A0 rfl) rfl) ?_
 refine A1 rfl (B0 0 rfl (A0 rfl) rfl C2 rfl) ?_
 refine A1 rfl (E8 rfl Tryz.call52 rfl (AF1 _) (A7 (A0 rfl) C6)) ?_
 refine A1 rfl (M5 rfl (A0 rfl)) ?_
 refine A5 rfl ?_
 refine H8 rfl (fun hc => B1 1 rfl C0 rfl N2 (A0 rfl) rfl) ?_
 refine H8 rfl (fun hc => B0 0 rfl (A6 rfl hc) rfl O9 rfl) ?_
 refine H8 rfl (fun hc => E8 rfl Tryz.call77 rfl (t1 _ (by first | assumption | omega)) (A7 (A6 rfl hc) C6)) ?_
 refine H8 rfl (fun hc => M5 rfl (A6 rfl hc)) ?_
 refine A1 rfl (R5 rfl (A0 rfl) (F9 rfl)) ?_
 refine A5 rfl ?_
 refine H8 rfl (fun hc => G5 0 rfl (A0 rfl) rfl E6 C3 rfl) ?_
 refine H8 rfl (fun hc => E8 rfl Tryz.call91 rfl (Am5 s (by have h9 := hc; simp at h9; exact h9.2) hs) (A7 (A6 rfl hc) C6)) ?_
 refine H8 rfl (fun hc => M5 rfl (A6 rfl hc)) ?_
 refine A1 rfl (R5 rfl (A0 rfl) (F9 rfl)) ?_
 refine A5 rfl ?_
 refine H8 rfl (fun hc => B1 3 rfl C0 rfl N4 (A0 rfl) rfl) ?_
 refine H8 rfl (fun hc => B0 0 rfl (A6 rfl hc) rfl T4 rfl) ?_
 refine H8 rfl (fun hc => H2 rfl I0 (A6 rfl hc)) ?_
 refine H8 rfl (fun hc => O8 rfl (A6 rfl hc) B6) ?_
 refine A1 rfl (R5 rfl (A0 rfl) (F9 rfl)) ?_
 refine A4 ?_
 refine C4 (A0 rfl) ?_ ?_
 ·intro h30
  have hfin : goodState s = false := by (unfold goodState; simp only [Bool.or_eq_true, Bool.not_eq_true', decide_eq_true_eq, A9] at h30; rcases h30 with ((h | h) | h) | h; (rw [h]; rfl); (rw [h]; simp); (rw [h]; simp); (rw [decide_eq_false (show ¬ s.Told.length ≤ 60 by omega)]; simp))
  refine A3 (A2 ?_)
  refine A1 rfl (B7 rfl F8) ?_
  refine A4 ?_
  refine C5 ?_
  exact H9 rfl (B8 rfl (by exact congrArg AV.bool hfin.symm))
 intro h30
 simp only [Bool.or_eq_false_iff, Bool.not_eq_false', decide_eq_false_iff_not, A9] at h30
 obtain ⟨⟨⟨q1, q2⟩, q3⟩, q4⟩ := h30
 have hco := W9 q2
 have hsrt := Am3 q3
 have hgs : goodState s = ((s.Cells.all fun c => decide (lastTime s.Cells c.Key ≤ s.Floor)) && allB s.Told.length (toldAt s)) := by (unfold goodState; rw [q1, q2, q3, decide_eq_true (show s.Told.length ≤ 60 by omega)]; simp)
 refine C8 (A3 (A3 (A2 ?_)))
 refine A1 rfl (B1 1 rfl C0 rfl N2 (A0 rfl) rfl) ?_
 refine A1 rfl (B0 0 rfl (A0 rfl) rfl O9 rfl) ?_
 refine A1 rfl (H2 rfl C7 (A0 rfl)) ?_
 refine A1 rfl (B9 rfl B6) ?_
 refine A4 (D1 ?_)
 refine J6 [(1, _), (32, _), (33, _)] _ (fun (i : Nat) => i ≤ s.Cells.length ∧ (s.Cells.all fun c => decide (lastTime s.Cells c.Key ≤ s.Floor)) = ((s.Cells.drop i).all fun c => decide (lastTime s.Cells c.Key ≤ s.Floor))) (fun (i : Nat) => []) (fun (i : Nat) => [(34, AV.int i)]) (fun (i : Nat) => s.Cells.length - i) (0) ?_ (K0 ⟨rfl, rfl, rfl, rfl, trivial⟩) ?_
 ·exact ⟨Nat.zero_le _, rfl⟩
 intro i hinv
 refine A3 (A2 ?_)
 refine A1 rfl (K5 rfl (A0 rfl) (A0 rfl)) ?_
 refine A4 (A3 ?_)
 refine C4 (A0 rfl) ?_ ?_
 ·intro h35
  have k35 := of_decide_eq_true h35; try simp only [A9] at k35
  have hlt : i < s.Cells.length := by omega
  obtain ⟨c, hx⟩ := get_some hlt
  refine C8 (A3 (D1 (A3 (A2 ?_))))
  refine A1 rfl (J4 rfl C7 E2 (A0 rfl) (A0 rfl) hx (by first | omega | (simp only [C9, A8, szR] at *; omega))) ?_
  refine A1 rfl (L4 rfl (A0 rfl) S7 E2) ?_
  refine G3 rfl rfl rfl rfl Tryz.zeroValue125 rfl ?_
  intro b4
  refine D7 0 rfl rfl rfl (A0 rfl) (A0 rfl) (F0 _) rfl E2 rfl ?_
  refine A4 (A3 ?_)
  refine J5 (by kernel_rfl) (by kernel_rfl) rfl ?_
  refine B2 rfl rfl (B1 1 rfl C0 rfl N2 (A0 rfl) rfl) ?_
  refine B2 rfl rfl (B0 1 rfl (A0 rfl) rfl O9 rfl) ?_
  refine B2 rfl rfl (B1 0 rfl F4 rfl E5 (A0 rfl) rfl) ?_
  refine B2 rfl rfl (B0 0 rfl (A0 rfl) rfl F7 rfl) ?_
  refine B2 rfl rfl (E8 rfl Tryz.call92 rfl (z8 _ _ (by first | assumption | exact W9 (by assumption)) (by first | assumption | omega)) (A7 (A0 rfl) (A7 (A0 rfl) C6))) ?_
  refine B2 rfl rfl (B1 0 rfl C0 rfl B4 (A0 rfl) rfl) ?_
  refine B2 rfl rfl (B0 1 rfl (A0 rfl) rfl C2 rfl) ?_
  refine B2 rfl rfl (O8 rfl (A0 rfl) (A0 rfl)) ?_
  refine P2 ?_
  refine C4 (A0 rfl) ?_ ?_
  ·intro h45
   have k45 := of_decide_eq_true h45; try simp only [A9] at k45
   have hfin : goodState s = false := by (rw [hgs, hinv.2, drop_some hx, List.all_cons, decide_eq_false (show ¬ lastTime s.Cells c.Key ≤ s.Floor by omega)]; rfl)
   refine A3 (A2 ?_)
   refine A1 rfl (B7 rfl F8) ?_
   refine A4 ?_
   refine C5 ?_
   exact H9 rfl (B8 rfl (by exact congrArg AV.bool hfin.symm))
  intro h45
  have k45 := of_decide_eq_false h45; try simp only [A9] at k45
  refine C8 (A2 ?_)
  refine A1 rfl (G7 rfl (A0 rfl) B6 (by first | omega | (simp only [C9, A8, szR] at *; omega))) ?_
  refine A5 rfl ?_
  refine A4 ?_
  refine L9 i (i + 1) ?_ ?_ (U7 1 ⟨rfl, rfl, rfl, rfl, trivial⟩)
  ·exact ⟨by omega, by rw [hinv.2, drop_some hx, List.all_cons, decide_eq_true (show lastTime s.Cells c.Key ≤ s.Floor by omega)]; rfl⟩
  omega
 intro h35
 have k35 := of_decide_eq_false h35; try simp only [A9] at k35
 have hge : s.Cells.length ≤ i := by omega
 have hgs2 : goodState s = allB s.Told.length (toldAt s) := by (rw [hgs, hinv.2, List.drop_eq_nil_of_le hge]; rfl)
 refine G9 ?_
 refine A3 (A3 (A2 ?_))
 refine A1 rfl (B1 3 rfl C0 rfl N4 (A0 rfl) rfl) ?_
 refine A1 rfl (B0 0 rfl (A0 rfl) rfl T4 rfl) ?_
 refine A1 rfl (H2 rfl I0 (A0 rfl)) ?_
 refine A1 rfl (B9 rfl B6) ?_
 refine A4 (D1 ?_)
 refine J6 [(1, _), (48, _), (49, _)] _ (fun (q : Nat) => q ≤ s.Told.length ∧ ∀ j, j < q → toldAt s j = true) (fun (q : Nat) => []) (fun (q : Nat) => [(50, AV.int q)]) (fun (q : Nat) => s.Told.length - q) (0) ?_ (K0 ⟨rfl, rfl, rfl, rfl, trivial⟩) ?_
 ·exact ⟨Nat.zero_le _, fun j hj => by omega⟩
 intro q hinv
 refine A3 (A2 ?_)
 refine A1 rfl (K5 rfl (A0 rfl) (A0 rfl)) ?_
 refine A4 (A3 ?_)
 refine C4 (A0 rfl) ?_ ?_
 ·intro h51
  have k51 := of_decide_eq_true h51; try simp only [A9] at k51
  have hlt : q < s.Told.length := by omega
  obtain ⟨t, hx⟩ := get_some hlt
  obtain ⟨y, hy⟩ := get_some (show q - 1 < s.Told.length by omega)
  refine C8 (A3 (D1 (A3 (A2 ?_))))
  refine A5 rfl ?_
  refine A1 rfl (J4 rfl I0 K7 (A0 rfl) (A0 rfl) hx (by first | omega | (simp only [C9, A8, szR] at *; omega))) ?_
  refine A1 rfl (L4 rfl (A0 rfl) a7 K7) ?_
  refine G3 rfl rfl rfl rfl Tryz.zeroValue144 rfl ?_
  intro b6
  refine B5 rfl ?_
  refine D7 0 rfl rfl rfl (A0 rfl) (A0 rfl) (F0 _) rfl K7 rfl ?_
  refine A4 (A3 (A2 ?_))
  refine A1 rfl (B1 1 rfl K8 rfl J1 (A0 rfl) rfl) ?_
  refine A1 rfl (B0 0 rfl (A0 rfl) rfl K9 rfl) ?_
  refine A5 rfl ?_
  refine D0 rfl (fun hc => B1 2 rfl K8 rfl B4 (A0 rfl) rfl) ?_
  refine D0 rfl (fun hc => B0 0 rfl (A6 rfl hc) rfl C2 rfl) ?_
  refine D0 rfl (fun hc => B1 0 rfl C0 rfl B4 (A0 rfl) rfl) ?_
  refine D0 rfl (fun hc => B0 1 rfl (A6 rfl hc) rfl C2 rfl) ?_
  refine D0 rfl (fun hc => E8 rfl Tryz.call82 rfl (d3 _ _ _) (A7 (A6 rfl hc) (A7 B6 (A7 (A6 rfl hc) C6)))) ?_
  refine A1 rfl (I1 rfl (A0 rfl) (F9 rfl)) ?_
  refine A5 rfl ?_
  refine H8 rfl (fun hc => B1 1 rfl K8 rfl J1 (A0 rfl) rfl) ?_
  refine H8 rfl (fun hc => B0 0 rfl (A6 rfl hc) rfl K9 rfl) ?_
  refine H8 rfl (fun hc => M5 rfl (A6 rfl hc)) ?_
  refine H8 rfl (fun hc => B9 rfl (A6 rfl hc)) ?_
  refine J2 rfl rfl (E1 rfl rfl rfl) (fun hc => B1 2 rfl K8 rfl B4 (A0 rfl) rfl) ?_
  refine J2 rfl rfl (E1 rfl rfl rfl) (fun hc => B0 0 rfl (A6 rfl hc) rfl C2 rfl) ?_
  refine J2 rfl rfl (E1 rfl rfl rfl) (fun hc => O7 rfl (A6 rfl hc) B6) ?_
  refine H8 rfl (fun hc => I1 rfl (A6 rfl hc) (Q0 rfl hc)) ?_
  refine A1 rfl (R5 rfl (A0 rfl) (F9 rfl)) ?_
  refine B5 rfl ?_
  refine A4 (A3 (A3 ?_))
  refine J5 (by kernel_rfl) (by kernel_rfl) rfl ?_
  refine B2 rfl rfl (B1 0 rfl K8 rfl B4 (A0 rfl) rfl) ?_
  refine B2 rfl rfl (B0 0 rfl (A0 rfl) rfl C2 rfl) ?_
  refine B2 rfl rfl (E8 rfl Tryz.call93 rfl (w4 _) (A7 (A0 rfl) C6)) ?_
  refine B2 rfl rfl (M5 rfl (A0 rfl)) ?_
  refine B2 rfl rfl (B9 rfl (A0 rfl)) ?_
  refine D2 rfl (I4 rfl rfl rfl) (fun hc => B9 rfl (A0 rfl)) ?_
  refine D2 rfl (I4 rfl rfl rfl) (fun hc => M5 rfl (A6 rfl hc)) ?_
  refine B2 rfl rfl (R5 rfl (A0 rfl) (F9 rfl)) ?_
  refine B2 rfl rfl (B9 rfl (A0 rfl)) ?_
  refine D2 rfl (I4 rfl rfl rfl) (fun hc => B9 rfl (A0 rfl)) ?_
  refine D2 rfl (I4 rfl rfl rfl) (fun hc => O8 rfl (A6 rfl hc) B6) ?_
  refine D2 rfl (I4 rfl rfl rfl) (fun hc => B9 rfl (A6 rfl hc)) ?_
  refine D2 rfl (E1 rfl rfl rfl) (fun hc => B1 0 rfl K8 rfl B4 (A0 rfl) rfl) ?_
  refine D2 rfl (E1 rfl rfl rfl) (fun hc => B0 0 rfl (A6 rfl hc) rfl C2 rfl) ?_
  refine D2 rfl (E1 rfl rfl rfl) (fun hc => B1 3 rfl C0 rfl N4 (A0 rfl) rfl) ?_
  refine D2 rfl (E1 rfl rfl rfl) (fun hc => B0 1 rfl (A6 rfl hc) rfl T4 rfl) ?_
  refine D2 rfl (E1 rfl rfl rfl) (fun hc => B9 rfl (A0 rfl)) ?_
  refine D2 rfl (E1 rfl rfl rfl) (fun hc => P9 rfl (A6 rfl hc) B6 (by first | omega | ((try simp only [C9, A8, szR] at *); omega) | (have hc2 := hc; simp only [P4, beq_iff_eq, bne_iff_ne, A9, E4] at hc2; omega))) ?_
  refine D2 rfl (E1 rfl rfl rfl) (fun hc => J4 rfl I0 K7 (A6 rfl hc) (A6 rfl hc) hy (by first | omega | ((try simp only [C9, A8, szR] at *); omega) | (have hc2 := hc; simp only [P4, beq_iff_eq, bne_iff_ne, A9, E4] at hc2; omega))) ?_
  refine D2 rfl (E1 rfl rfl rfl) (fun hc => V7 rfl K8 rfl B4 (A6 rfl hc) rfl) ?_
  refine D2 rfl (E1 rfl rfl rfl) (fun hc => N9 rfl (A6 rfl hc) C2 rfl) ?_
  refine D2 rfl (E1 rfl rfl rfl) (fun hc => V0 rfl (A6 rfl hc) (A6 rfl hc)) ?_
  refine D2 rfl (I4 rfl rfl rfl) (fun hc => I1 rfl (A6 rfl hc) (Q0 rfl hc)) ?_
  refine B2 rfl rfl (R5 rfl (A0 rfl) (F9 rfl)) ?_
  refine P2 ?_
  refine C4 (A0 rfl) ?_ ?_
  ·intro h97
   have hfin : goodState s = false := by (rw [hgs2]; exact Z5 hlt (by rw [AD6 hx hy, h97]; rfl))
   refine A3 (A2 ?_)
   refine A1 rfl (B7 rfl F8) ?_
   refine A4 ?_
   refine C5 ?_
   exact H9 rfl (B8 rfl (by exact congrArg AV.bool hfin.symm))
  intro h97
  refine C8 (A3 (A2 ?_))
  refine A1 rfl (G5 1 rfl (A0 rfl) rfl E6 C3 rfl) ?_
  refine A1 rfl (B1 0 rfl K8 rfl B4 (A0 rfl) rfl) ?_
  refine A1 rfl (B0 0 rfl (A0 rfl) rfl C2 rfl) ?_
  refine A1 rfl (E8 rfl Tryz.call94 rfl (Ah7 _ _ (by first | assumption | omega)) (A7 (A0 rfl) (A7 (A0 rfl) C6))) ?_
  refine A5 rfl ?_
  refine A1 rfl (I8 rfl (A0 rfl) rfl) ?_
  refine A1 rfl (I8 rfl (A0 rfl) rfl) ?_
  refine B5 rfl ?_
  refine B5 rfl ?_
  refine A4 (A3 (A2 ?_))
  refine A5 rfl ?_
  refine A4 ?_
  refine C4 (A0 rfl) ?_ ?_
  ·intro h105
   have hfin : goodState s = false := by (rw [hgs2]; exact Z5 hlt (by rw [AD6 hx hy, ← At2 hsrt, h105]; simp))
   refine A3 (A2 ?_)
   refine A1 rfl (B7 rfl F8) ?_
   refine A4 ?_
   refine C5 ?_
   exact H9 rfl (B8 rfl (by exact congrArg AV.bool hfin.symm))
  intro h105
  refine C8 (A2 ?_)
  refine A1 rfl (G7 rfl (A0 rfl) B6 (by first | omega | (simp only [C9, A8, szR] at *; omega))) ?_
  refine A5 rfl ?_
  refine A4 ?_
  refine L9 q (q + 1) ?_ ?_ (U7 1 ⟨rfl, rfl, rfl, rfl, trivial⟩)
  ·exact ⟨by omega, fun j hj => if hji : j < q then hinv.2 j hji else (by have e : j = q := (by omega); subst e; rw [AD6 hx hy, h97, ← At2 hsrt, h105]; rfl)⟩
  omega
 intro h51
 have k51 := of_decide_eq_false h51; try simp only [A9] at k51
 have hge : s.Told.length ≤ q := by omega
 have hfin : goodState s = true := by (rw [hgs2]; exact l9.2 fun j hj => hinv.2 j (by omega))
 refine G9 ?_
 refine A3 (A2 ?_)
 refine A1 rfl (B7 rfl F8) ?_
 refine A4 ?_
 refine C5 ?_
 exact H9 rfl (B8 rfl (by exact congrArg AV.bool hfin.symm))
end Go.Proofs.YtkegepoihkhihaaGreat

namespace Go.Proofs.YtkegepoihkhihaaGreat
open Go Go.AV Go.M
attribute [local irreducible] OpW OpA OpS AWP FSpec ESpec GSpec OpE RetOk RetOkG RvDen Le Ev GuardIs
def TRec.ow (c : TRec) (x : Value × Value) : List Own := [.arr x.1 9 1 (c.Reads.map (fun x => [AV.str x])), .arr x.2 101 3 (c.Writes.map TWrite.cs)]
theorem TRec.lc (c : TRec) (x : Value × Value) : LendC (TRec.ow c x) (TRec.ocs c x) c.cs := (H7 M9 (H7 M9 (H7 M9 (H7 M9 (H7 (N8 (G2 (i := 0) rfl) J7) (H7 (N8 (G2 (i := 1) rfl) J7) (H7 M9 V9)))))))
def TPlaces.ow (c : TPlaces) (x : Value × Value) : List Own := [.arr x.1 9 1 (c.Cuts.map (fun x => [AV.str x])), .arr x.2 3 1 (c.Groups.map (fun x => [AV.int x]))]
theorem TPlaces.lc (c : TPlaces) (x : Value × Value) : LendC (TPlaces.ow c x) (TPlaces.ocs c x) c.cs := (H7 M9 (H7 (N8 (G2 (i := 0) rfl) J7) (H7 (N8 (G2 (i := 1) rfl) J7) V9)))
def TMove.ow (c : TMove) (x : Value × Value) : List Own := [.arr x.1 101 3 (c.From.map TWrite.cs), .arr x.2 101 3 (c.To.map TWrite.cs)]
theorem TMove.lc (c : TMove) (x : Value × Value) : LendC (TMove.ow c x) (TMove.ocs c x) c.cs := (H7 M9 (H7 M9 (H7 M9 (H7 (N8 (G2 (i := 0) rfl) J7) (H7 (N8 (G2 (i := 1) rfl) J7) (H7 M9 (H7 M9 V9)))))))
end Go.Proofs.YtkegepoihkhihaaGreat

namespace Go.AV
section
variable {T X : Type} {cs : T → List AV} {ocs : T → X → List AV} {ow : T → X → List Own}
theorem BA4 {l : List T} {xs : List X} {i : Nat} {p : T} {x : X} (hi : i ≤ l.length) (h : xs.length = l.length) : (nrows ocs l xs).take i ++ ocs p x :: (nrows ocs l xs).drop i = nrows ocs (l.take i ++ p :: l.drop i) (xs.take i ++ x :: xs.drop i) := by
  unfold nrows
  rw [List.zipWith_append (by rw [E4, E4]; omega), List.zipWith_cons_cons, List.take_zipWith, List.drop_zipWith]
theorem nin_ins {l : List T} {xs : List X} {i : Nat} {p : T} {x : X} (hi : i ≤ l.length) (h : xs.length = l.length) : (ow p x ++ nin ow l xs).Perm (nin ow (l.take i ++ p :: l.drop i) (xs.take i ++ x :: xs.drop i)) := by
  have e : nin ow l xs = nin ow (l.take i) (xs.take i) ++ nin ow (l.drop i) (xs.drop i) := by
    unfold nin
    rw [← List.flatten_append, ← List.zipWith_append (by rw [E4, E4]; omega), List.take_append_drop, List.take_append_drop]
  have e2 : nin ow (l.take i ++ p :: l.drop i) (xs.take i ++ x :: xs.drop i) = nin ow (l.take i) (xs.take i) ++ (ow p x ++ nin ow (l.drop i) (xs.drop i)) := by
    unfold nin
    rw [List.zipWith_append (by rw [E4, E4]; omega), List.zipWith_cons_cons, List.flatten_append, List.flatten_cons]
  rw [e, e2, ← List.append_assoc, ← List.append_assoc]
  exact List.Perm.append_right _ List.perm_append_comm
theorem Am7 {X : Type} {xs : List X} {i : Nat} {x : X} (hi : i ≤ xs.length) : (xs.take i ++ x :: xs.drop i).length = xs.length + 1 := by
  rw [H5, I5, E4, List.length_drop]; omega
end
end Go.AV
namespace Go.Proofs.YtkegepoihkhihaaGreat
open Go Go.AV Go.M
attribute [local irreducible] OpW OpA OpS AWP FSpec ESpec GSpec OpE RetOk RetOkG RvDen Le Ev GuardIs SrcIs
def TCell.ow (c : TCell) (x : Value) : List Own := [.arr x 127 3 (c.Vers.map TVer.cs)]
theorem TCell.lcM {own : List Own} (c : TCell) (x : Value) (h : ∀ o ∈ TCell.ow c x, o ∈ own) : LendC own (TCell.ocs c x) c.cs := H7 M9 (H7 (N8 (h _ (G2 (i := 0) rfl)) J7) V9)
theorem TCell.flatC (c : TCell) (x : Value) : ∀ e ∈ TCell.ocs c x, Flat e := i9 (D9 _) (i9 (F6 _) AL7)
theorem TCell.flatW (c : TCell) (x : Value) : ∀ q ∈ TCell.ow c x, FlatO q := K6 (R6 (S2 fun s => i9 (D8 _ _) (i9 (D9 _) (i9 (D5 _) AL7)))) M0
theorem Aw1 {l : List TCell} {xs : List Value} {p : TCell} {x : Value} {i : Nat} (hp : l[i]? = some p) (h : xs.length = i) : nrows TCell.ocs (l.take i) xs ++ TCell.ocs p x :: (l.drop (i + 1)).map TCell.cs = nrows TCell.ocs (l.take (i + 1)) (xs ++ [x]) ++ (l.drop (i + 1)).map TCell.cs := by
  rw [← AW0 hp h, List.append_assoc]; rfl
theorem Aa5 (v vv : Value) (l : List (List AV)) (x : List AV) (hx2 : x.length = 2) (hl2 : ∀ r ∈ l, r.length = 2) (i : Nat) (hi : i ≤ l.length) (hl : l.length ≤ 4194304) : GSpec Tryz.prog 123 [AV.is v, AV.int i, AV.is vv] [.arr v 125 2 (l.map id), .arr vv 125 2 [id x]] (fun _ : Value => True) (fun v => [.arr v 125 2 ((l.take i ++ x :: l.drop i).map id)]) (fun v => AV.is v) := by
 have hn : (l.map id).length = l.length := A9 _
 have h1 : ([id x] : List (List AV)).length = 1 := rfl
 have e28 : ((l.map id).length : Int) + (([id x] : List (List AV)).length : Int) = ((l.length + 1 : Nat) : Int) := by rw [hn, h1]; rfl
 have e49 : (i : Int) + (([id x] : List (List AV)).length : Int) = ((i + 1 : Nat) : Int) := by rw [h1]; rfl
 have e39 : ((l.length + 1 : Nat) : Int) - (i : Int) = ((l.length + 1 - i : Nat) : Int) := by omega
 refine I9 Tryz.func123 rfl Tryz.ntmps123 rfl ?_
 refine AS2 0 rfl ?_ ?_
 ·intro hv hes; subst hv
  have hl0 : l = [] := by cases l with | nil => rfl | cons y l => (simp at hes)
  subst hl0
  have hi0 : i = 0 := by simpa using hi
  subst hi0
  refine AS2 1 rfl (fun _ h => by cases h) ?_
  intro gv cv hvv _ _
  subst hvv
  refine A3 (A2 ?_)
  refine A1 rfl (B7 rfl M4) ?_
  refine A4 (A3 (A2 ?_))
  refine A5 rfl ?_
  refine A5 rfl ?_
  refine A1 rfl (AV1 0 rfl C7 E2 (A0 rfl) rfl (A0 rfl) (by first | omega | (simp only [C9, A8, szR] at *; omega)) (by first | omega | (simp only [C9, A8, szR] at *; omega))) ?_
  refine A4 (A3 (A2 ?_))
  refine A5 rfl ?_
  refine A1 rfl (Ak2 rfl C7 (A0 rfl)) ?_
  refine B5 rfl ?_
  refine A4 (A3 (A3 (A2 ?_)))
  refine A5 rfl ?_
  refine A1 rfl (O7 rfl (A0 rfl) B6) ?_
  refine A4 ?_
  refine C4 (A0 rfl) ?_ ?_
  ·intro h16
   have k16 := O1 h16; try simp only [A9] at k16
   rw [h1] at k16; omega
  intro h16
  have k16 := O0 h16; try simp only [A9] at k16
  refine C8 (A3 (A2 ?_))
  refine A5 rfl ?_
  refine A1 rfl (V8 0 rfl C7 (A0 rfl) rfl) ?_
  refine B5 rfl ?_
  refine A4 (A3 (A3 (A2 ?_)))
  refine A5 rfl ?_
  refine A5 rfl ?_
  refine A1 rfl (O7 rfl (A0 rfl) (A0 rfl)) ?_
  refine A4 ?_
  refine C4 (A0 rfl) ?_ ?_
  ·intro h22
   have k22 := O1 h22; try simp only [A9] at k22
   refine A3 (A2 ?_)
   refine A5 rfl ?_
   refine A5 rfl ?_
   refine AV3 (by' := 40) 0 rfl rfl rfl rfl C7 Tryz.type125 rfl rfl rfl rfl rfl rfl (A0 rfl) (AB6 1 rfl (A0 rfl)) (by simp) rfl (by simp only [A9, I5, L6]; omega) ?_
   intro v25
   refine B5 rfl ?_
   refine A4 ?_
   refine C5 ?_
   exact M3 [0] v25 (trivial) rfl (by exact congrArg (fun z => [Own.arr _ 125 2 z]) (by first | exact AH7 hi (by simp) | exact AD1 (by omega) | (have hil : i = l.length := (by omega); subst hil; simp; done) | (simp; done))) (P7 rfl (B8 rfl (by first | rfl | (rw [hn]))))
  intro h22
  have k22 := O0 h22; try simp only [A9] at k22
  exact absurd rfl k22
 intro g cap hv hlc hcm; subst hv
 refine AS2 1 rfl (fun _ h => by cases h) ?_
 intro gv cv hvv _ _
 subst hvv
 refine A3 (A2 ?_)
 refine A1 rfl (B7 rfl M4) ?_
 refine A4 (A3 (A2 ?_))
 refine A5 rfl ?_
 refine A5 rfl ?_
 refine A1 rfl (AD0 rfl C7 E2 (A0 rfl) (A0 rfl) (by first | omega | (simp only [C9, A8, szR] at *; omega)) (by first | omega | (simp only [C9, A8, szR] at *; omega))) ?_
 refine A4 (A3 (A2 ?_))
 refine A5 rfl ?_
 refine A1 rfl (Ak2 rfl C7 (A0 rfl)) ?_
 refine B5 rfl ?_
 refine A4 (A3 (A3 (A2 ?_)))
 refine A5 rfl ?_
 refine A1 rfl (O7 rfl (A0 rfl) B6) ?_
 refine A4 ?_
 refine C4 (A0 rfl) ?_ ?_
 ·intro h16
  have k16 := O1 h16; try simp only [A9] at k16
  rw [h1] at k16; omega
 intro h16
 have k16 := O0 h16; try simp only [A9] at k16
 refine C8 (A3 (A2 ?_))
 refine A5 rfl ?_
 refine A1 rfl (Ak2 rfl C7 (A0 rfl)) ?_
 refine B5 rfl ?_
 refine A4 (A3 (A3 (A2 ?_)))
 refine A5 rfl ?_
 refine A5 rfl ?_
 refine A1 rfl (O7 rfl (A0 rfl) (A0 rfl)) ?_
 refine A4 ?_
 refine C4 (A0 rfl) ?_ ?_
 ·intro h22
  have k22 := O1 h22; try simp only [A9] at k22
  refine A3 (A2 ?_)
  refine A5 rfl ?_
  refine A5 rfl ?_
  refine AV3 (by' := 40) 0 rfl rfl rfl rfl C7 Tryz.type125 rfl rfl rfl rfl rfl rfl (A0 rfl) (AB6 1 rfl (A0 rfl)) (by simp) rfl (by simp only [A9, I5, L6]; omega) ?_
  intro v25
  refine B5 rfl ?_
  refine A4 ?_
  refine C5 ?_
  exact M3 [0] v25 (trivial) rfl (by exact congrArg (fun z => [Own.arr _ 125 2 z]) (by first | exact AH7 hi (by simp) | exact AD1 (by omega) | (have hil : i = l.length := (by omega); subst hil; simp; done) | (simp; done))) (P7 rfl (B8 rfl (by first | rfl | (rw [hn]))))
 intro h22
 have k22 := O0 h22; try simp only [A9] at k22
 refine C8 (A3 (A3 (A2 ?_)))
 refine A5 rfl ?_
 refine A5 rfl ?_
 refine A1 rfl (G7 rfl (A0 rfl) (A0 rfl) (by first | omega | (simp only [C9, A8, szR] at *; omega))) ?_
 rw [e28]
 refine A5 rfl ?_
 refine A1 rfl (w_vcap rfl C7 (A0 rfl)) ?_
 refine A1 rfl (O8 rfl (A0 rfl) (A0 rfl)) ?_
 refine A4 ?_
 refine C4 (A0 rfl) ?_ ?_
 ·intro h31
  have k31 := of_decide_eq_true h31; try simp only [A9] at k31
  refine A3 (A2 ?_)
  refine A5 rfl ?_
  refine A5 rfl ?_
  refine A1 rfl (w_vhi rfl C7 E2 (A0 rfl) (A0 rfl) (by omega) (by rw [hn] at hlc; omega)) ?_
  refine A5 rfl ?_
  refine A5 rfl ?_
  refine A1 rfl (G7 rfl (A0 rfl) (A0 rfl) (by first | omega | (simp only [C9, A8, szR] at *; omega))) ?_
  rw [e28]
  refine A5 rfl ?_
  refine A1 rfl (P9 rfl (A0 rfl) (A0 rfl) (by first | omega | (simp only [C9, A8, szR] at *; omega))) ?_
  rw [e39, Int.toNat_natCast]
  refine Au6 (by' := 40) (j := i) (m := l.length + 1 - i) 0 rfl rfl rfl rfl C7 P8 Tryz.type125 rfl rfl rfl rfl rfl rfl (A0 rfl) (A0 rfl) rfl (by rw [hn]; exact hi) (by omega) (by omega) (by omega) (by omega) ?_
  intro g2 cap2 hcap2
  refine B5 rfl ?_
  refine A4 (A3 (A2 ?_))
  refine A5 rfl ?_
  refine A5 rfl ?_
  refine A1 rfl (AD0 rfl C7 E2 (A0 rfl) (A0 rfl) (by first | omega | (simp only [C9, A8, szR] at *; omega)) (by first | omega | (simp only [C9, A8, szR] at *; omega))) ?_
  refine A5 rfl ?_
  rw [Int.toNat_natCast]
  refine AZ1 (k := i) 0 rfl rfl rfl rfl C7 Tryz.type125 rfl (A0 rfl) (AB6 2 rfl (A0 rfl)) rfl (by rw [h1]; omega) (by rw [h1]; omega) hcap2 (by simp) ?_
  refine A4 (A3 ?_)
  refine V5 8 (by kernel_rfl) (by kernel_rfl) rfl ?_
  refine B2 rfl rfl (B9 rfl (A0 rfl)) ?_
  refine B2 rfl rfl (B9 rfl (A0 rfl)) ?_
  refine B2 rfl rfl (B9 rfl (A0 rfl)) ?_
  refine B2 rfl rfl (G7 rfl (A0 rfl) (A0 rfl) (by first | omega | (simp only [C9, A8, szR] at *; omega))) ?_
  rw [e49]
  refine B2 rfl rfl (AD0 rfl C7 E2 (A0 rfl) (A0 rfl) (by first | omega | (simp only [C9, A8, szR] at *; omega)) (by first | omega | (simp only [C9, A8, szR] at *; omega))) ?_
  refine B2 rfl rfl (B9 rfl (A0 rfl)) ?_
  refine B2 rfl rfl (B9 rfl (A0 rfl)) ?_
  refine B2 rfl rfl (AD0 rfl C7 E2 (A0 rfl) (A0 rfl) (by first | omega | (simp only [C9, A8, szR] at *; omega)) (by first | omega | (simp only [C9, A8, szR] at *; omega))) ?_
  refine P2 ?_
  simp only [Int.toNat_natCast]
  refine AZ1 (k := i + 1) 0 rfl rfl rfl rfl C7 Tryz.type125 rfl (A0 rfl) (AZ0 1 rfl (A0 rfl)) rfl (by rw [List.length_drop, hn]; omega) (by rw [List.length_drop, hn]; omega) hcap2 (by intro h; have := congrArg List.length h; rw [List.length_drop, hn] at this; simp at this; omega) ?_
  refine A4 (A3 (A2 ?_))
  refine A5 rfl ?_
  refine B5 rfl ?_
  refine A4 ?_
  refine C5 ?_
  exact M3 [0] (slv g2 (i + (l.length + 1 - i)) cap2) (trivial) rfl (by exact congrArg (fun z => [Own.arr _ 125 2 z]) (by first | exact AH7 hi (by simp) | exact AD1 (by omega) | (have hil : i = l.length := (by omega); subst hil; simp; done) | (simp; done))) (P7 rfl (B8 rfl (by first | rfl | (rw [hn]))))
 intro h31
 have k31 := of_decide_eq_false h31; try simp only [A9] at k31
 refine C8 (A3 (A2 ?_))
 refine A5 rfl ?_
 refine A5 rfl ?_
 refine A5 rfl ?_
 refine A1 rfl (G7 rfl (A0 rfl) (A0 rfl) (by first | omega | (simp only [C9, A8, szR] at *; omega))) ?_
 rw [e28]
 refine A1 rfl (w_vhi rfl C7 E2 (A0 rfl) (A0 rfl) (by first | omega | (simp only [C9, A8, szR] at *; omega)) (by first | omega | (simp only [C9, A8, szR] at *; omega))) ?_
 rw [Int.toNat_natCast]
 refine B5 rfl ?_
 refine A4 (A3 (A3 (A2 ?_)))
 refine A5 rfl ?_
 refine A5 rfl ?_
 refine A5 rfl ?_
 refine A5 rfl ?_
 refine A1 rfl (G7 rfl (A0 rfl) (A0 rfl) (by first | omega | (simp only [C9, A8, szR] at *; omega))) ?_
 rw [e49]
 refine A1 rfl (AD0 rfl C7 E2 (A0 rfl) (A0 rfl) (by first | omega | (simp only [C9, A8, szR] at *; omega)) (by first | omega | (simp only [C9, A8, szR] at *; omega))) ?_
 rw [Int.toNat_natCast]
 refine A1 rfl (Ap0 (tb := 4) 1 0 rfl Tryz.func174 (by kernel_rfl) (by kernel_rfl) (by kernel_rfl) (by kernel_rfl) C7 E2 (A0 rfl) (A0 rfl) rfl rfl rfl (by omega) rfl) ?_
 refine A1 rfl (M5 rfl (A0 rfl)) ?_
 refine A4 ?_
 refine C4 (A0 rfl) ?_ ?_
 ·intro h68
  refine A3 ?_
  refine V5 8 (by kernel_rfl) (by kernel_rfl) rfl ?_
  refine B2 rfl rfl (B9 rfl (A0 rfl)) ?_
  refine B2 rfl rfl (B9 rfl (A0 rfl)) ?_
  refine B2 rfl rfl (B9 rfl (A0 rfl)) ?_
  refine B2 rfl rfl (G7 rfl (A0 rfl) (A0 rfl) (by first | omega | (simp only [C9, A8, szR] at *; omega))) ?_
  rw [e49]
  refine B2 rfl rfl (AD0 rfl C7 E2 (A0 rfl) (A0 rfl) (by first | omega | (simp only [C9, A8, szR] at *; omega)) (by first | omega | (simp only [C9, A8, szR] at *; omega))) ?_
  refine B2 rfl rfl (B9 rfl (A0 rfl)) ?_
  refine B2 rfl rfl (B9 rfl (A0 rfl)) ?_
  refine B2 rfl rfl (AD0 rfl C7 E2 (A0 rfl) (A0 rfl) (by first | omega | (simp only [C9, A8, szR] at *; omega)) (by first | omega | (simp only [C9, A8, szR] at *; omega))) ?_
  refine P2 ?_
  simp only [Int.toNat_natCast]
  refine sq_shift (k := i) (len := (l.map id).length) 0 rfl rfl rfl rfl C7 Tryz.type125 rfl (by rw [hn]; exact A0 rfl) (by rw [hn]; exact A0 rfl) rfl (by omega) (by omega) ?_
  intro j77
  refine A4 (A3 (A2 ?_))
  refine A5 rfl ?_
  refine A5 rfl ?_
  refine A1 rfl (AD0 rfl C7 E2 (A0 rfl) (A0 rfl) (by first | omega | (simp only [C9, A8, szR] at *; omega)) (by first | omega | (simp only [C9, A8, szR] at *; omega))) ?_
  refine A5 rfl ?_
  rw [Int.toNat_natCast]
  refine AZ1 (k := i) 0 rfl rfl rfl rfl C7 Tryz.type125 rfl (A0 rfl) (AB6 1 rfl (A0 rfl)) rfl (by rw [h1, hn]; omega) (by rw [h1]; omega) (by omega) (by simp) ?_
  refine A4 (A3 (A2 ?_))
  refine A5 rfl ?_
  refine B5 rfl ?_
  refine A4 ?_
  refine C5 ?_
  exact M3 [0] (slv g ((l.map id).length + 1) cap) (trivial) rfl (by exact congrArg (fun z => [Own.arr _ 125 2 z]) (by first | exact AH7 hi (by simp) | exact AD1 (by omega) | (have hil : i = l.length := (by omega); subst hil; simp; done) | (simp; done))) (P7 rfl (B8 rfl (by first | rfl | (rw [hn]))))
 intro h68
 cases h68

theorem AJ7 (l : List TCell) (hs : sizeL TCell.size l ≤ 4194304) : GSpec Tryz.prog 78 [AV.list 2 (l.map TCell.cs)] [] (fun x : Value × List Value => x.2.length = l.length) (fun x => .arr x.1 125 2 (nrows TCell.ocs l x.2) :: nin TCell.ow l x.2) (fun x => AV.is x.1) := by
 have hl : l.length ≤ 4194304 := Nat.le_trans O2 hs
 refine I9 Tryz.func78 rfl Tryz.ntmps78 rfl ?_
 refine A3 (A2 ?_)
 refine A1 rfl (B7 rfl M4) ?_
 refine A4 (A3 (A2 ?_))
 refine A5 rfl ?_
 refine J9 [] rfl rfl rfl rfl Tryz.call120 rfl (AZ6 _ (by first | assumption | omega)) (A7 (A0 rfl) C6) rfl ?_
 intro x6 ok6
 refine B5 rfl ?_
 refine A4 (A3 (A3 (A2 ?_)))
 refine A5 rfl ?_
 refine A1 rfl (V8 0 rfl C7 (A0 rfl) rfl) ?_
 refine A1 rfl (B9 rfl B6) ?_
 refine A4 (D1 ?_)
 refine Q9 [(2, _), (3, _), (8, _)] [] (fun (i : Nat) (xs : List Value) => i ≤ l.length ∧ xs.length = i) (fun (i : Nat) (xs : List Value) => [.arr x6 125 2 (nrows TCell.ocs (l.take i) xs ++ (l.drop i).map TCell.cs)] ++ (nin TCell.ow (l.take i) xs)) (fun (i : Nat) (xs : List Value) => [(9, AV.int i)]) (fun (i : Nat) (xs : List Value) => l.length - i) (0) ([]) ?_ (S6 (by rfl) ⟨rfl, rfl, rfl, rfl, trivial⟩) ?_
 ·exact ⟨Nat.zero_le _, rfl⟩
 intro i xs hinv
 refine N7 (List.append_nil _) ?_
 refine A3 (A2 ?_)
 refine A1 rfl (K5 rfl (A0 rfl) (A0 rfl)) ?_
 refine A4 (A3 ?_)
 refine C4 (A0 rfl) ?_ ?_
 ·intro h10
  have k10 := of_decide_eq_true h10; try simp only [A9] at k10
  have hlt : i < l.length := by omega
  obtain ⟨x, hx⟩ := get_some hlt
  have hsx := f0 (Nat.le_trans (X6 hx) hs)
  rw [drop_some hx, List.map_cons]
  refine C8 (A3 (D1 (A3 (A2 ?_))))
  refine A5 rfl ?_
  refine B5 rfl ?_
  refine A4 (A2 ?_)
  refine A5 rfl ?_
  refine A5 rfl ?_
  refine A5 rfl ?_
  refine A5 rfl ?_
  refine A1 rfl (U2 0 rfl C7 E2 (A0 rfl) rfl (A0 rfl) (by omega) (by rw [H5, I5, Z8 (by rw [hinv.2, E4]; omega), E4]; omega)) ?_
  refine A1 rfl (l7 0 rfl F4 rfl K1 (A0 rfl) rfl rfl (c0 (show (nrows TCell.ocs (l.take i) xs).length = i by rw [Z8 (by rw [hinv.2, E4]; omega), E4]; omega))) ?_
  refine A1 rfl (s5 0 rfl (A0 rfl) rfl N5 (c0 (show (nrows TCell.ocs (l.take i) xs).length = i by rw [Z8 (by rw [hinv.2, E4]; omega), E4]; omega)) rfl) ?_
  refine J9 [] rfl rfl rfl rfl Tryz.call121 rfl (Ag8 _ (by first | assumption | omega)) (A7 (A0 rfl) C6) rfl ?_
  intro x19 ok19
  refine A1 rfl (U2 1 rfl C7 E2 (A0 rfl) rfl (A0 rfl) (by omega) (by rw [H5, I5, Z8 (by rw [hinv.2, E4]; omega), E4]; omega)) ?_
  refine A1 rfl (l7 1 rfl F4 rfl K1 (A0 rfl) rfl rfl (c0 (show (nrows TCell.ocs (l.take i) xs).length = i by rw [Z8 (by rw [hinv.2, E4]; omega), E4]; omega))) ?_
  refine V2 0 rfl fun one_x19 => ?_
  refine q7 1 rfl rfl rfl (A0 rfl) (A0 rfl) (U9 one_x19) rfl K1 (show (nrows TCell.ocs (l.take i) xs).length = i by rw [Z8 (by rw [hinv.2, E4]; omega), E4]; omega) rfl ?_
  refine A4 ?_
  refine AWP.le (H4 [1, 0] rfl) ?_
  refine AWP.le (g7 1 (t := nin TCell.ow (l.take (i + 1)) (xs ++ [x19])) (Al2 (ow := TCell.ow) (x := x19) hx hinv.2)) ?_
  refine A2 ?_
  refine A1 rfl (G7 rfl (A0 rfl) B6 (by first | omega | (simp only [C9, A8, szR] at *; omega))) ?_
  refine A5 rfl ?_
  refine A4 ?_
  refine P6 i xs (i + 1) (xs ++ [x19]) ?_ ?_ (S6 (Eq.trans (by exact congrArg (fun z => Own.arr _ _ _ z :: _) (Aw1 hx hinv.2)) (List.append_nil _).symm) ⟨rfl, rfl, rfl, rfl, trivial⟩)
  ·exact ⟨by omega, by rw [H5, hinv.2]; rfl⟩
  omega
 intro h10
 have k10 := of_decide_eq_false h10; try simp only [A9] at k10
 have hge : i = l.length := by omega
 have hxs := hinv.2.trans hge
 rw [show l.take i = l from List.take_of_length_le (by omega), show l.drop i = [] from List.drop_eq_nil_of_le (by omega), List.map_nil, List.append_nil]
 refine G9 ?_
 refine A3 (A2 ?_)
 refine A5 rfl ?_
 refine B5 rfl ?_
 refine A4 ?_
 refine C5 ?_
 exact f4 [0] 0 (nin TCell.ow l xs) [] (x6, xs) (hxs) rfl (show List.Perm (nin TCell.ow l xs) ((nin TCell.ow l xs) ++ []) from W6) (by rfl) (P7 rfl (B8 rfl (by first | rfl | (refine congrArg AV.bool ?_; simp_all; done))))
theorem Ae8 (l : List TCell) (hs : sizeL TCell.size l ≤ 4194304) : GSpec Tryz.prog 224 [AV.list 2 (l.map TCell.cs)] [] (fun x : Value × List Value => x.2.length = l.length) (fun x => .arr x.1 125 2 (nrows TCell.ocs l x.2) :: nin TCell.ow l x.2) (fun x => AV.is x.1) := by
 have hl : l.length ≤ 4194304 := Nat.le_trans O2 hs
 refine I9 Tryz.func224 rfl Tryz.ntmps224 rfl ?_
 refine A3 (A2 ?_)
 refine A1 rfl (B7 rfl M4) ?_
 refine A4 (A3 (A2 ?_))
 refine X5 125 2 rfl rfl rfl rfl M4 ?_
 intro v3
 refine A4 (A3 (A3 (A2 ?_)))
 refine A5 rfl ?_
 refine A1 rfl (H2 rfl C7 (A0 rfl)) ?_
 refine A1 rfl (B9 rfl B6) ?_
 refine A4 (D1 ?_)
 refine Z4 [(2, _), (6, _), (7, _)] [] (fun (i : Nat) (v : Value) (xs : List Value) => i ≤ l.length ∧ xs.length = i) (fun (i : Nat) (v : Value) (xs : List Value) => [.arr v 125 2 (nrows TCell.ocs (l.take i) xs)] ++ (nin TCell.ow (l.take i) xs)) (fun (i : Nat) (v : Value) (xs : List Value) => [(3, AV.is v), (8, AV.int i)]) (fun (i : Nat) (v : Value) (xs : List Value) => l.length - i) (0) (v3) ([]) ?_ (S6 (by rfl) ⟨rfl, rfl, rfl, rfl, rfl, trivial⟩) ?_
 ·exact ⟨Nat.zero_le _, rfl⟩
 intro i v xs hinv
 refine N7 (List.append_nil _) ?_
 refine A3 (A2 ?_)
 refine A1 rfl (K5 rfl (A0 rfl) (A0 rfl)) ?_
 refine A4 (A3 ?_)
 refine C4 (A0 rfl) ?_ ?_
 ·intro h9
  have k9 := of_decide_eq_true h9; try simp only [A9] at k9
  have hlt : i < l.length := by omega
  obtain ⟨x, hx⟩ := get_some hlt
  have hsx := f0 (Nat.le_trans (X6 hx) hs)
  refine C8 (A3 (D1 (A3 (A2 ?_))))
  refine A1 rfl (J4 rfl C7 E2 (A0 rfl) (A0 rfl) hx (by first | omega | (simp only [C9, A8, szR] at *; omega))) ?_
  refine A1 rfl (L4 rfl (A0 rfl) S7 E2) ?_
  refine G3 rfl rfl rfl rfl Tryz.zeroValue125 rfl ?_
  intro b5
  refine D7 0 rfl rfl rfl (A0 rfl) (A0 rfl) (F0 _) rfl E2 rfl ?_
  refine A4 ?_
  refine S3 _ [(0, false), (1, false), (2, false), (4, false), (5, false), (3, true), (6, true), (7, false), (8, false), (9, true)] (by kernel_rfl) (by kernel_rfl) rfl (V3 1) ?_
  refine F1 rfl rfl rfl (fun ext => B9 rfl (A0 rfl)) ?_
  refine F1 rfl rfl rfl (fun ext => B1 0 rfl F4 rfl E5 (A0 rfl) rfl) ?_
  refine F1 rfl rfl rfl (fun ext => B0 0 rfl (A0 rfl) rfl F7 rfl) ?_
  refine F1 rfl rfl rfl (fun ext => B1 1 rfl F4 rfl K1 (A0 rfl) rfl) ?_
  refine F1 rfl rfl rfl (fun ext => B0 0 rfl (A0 rfl) rfl N5 rfl) ?_
  refine T5 rfl rfl rfl (AB2 2 <| Y7 rfl G8 L1) (fun a _ => (by first | exact F3 rfl | exact F3 (List.append_assoc _ _ _) | exact I3)) ?_
  intro v15 _
  refine T5 rfl rfl rfl (j7 2 (fun _ => rfl) (O4 (by' := 32) 2 rfl G8 Tryz.type127 rfl rfl rfl rfl rfl rfl (A0 rfl) (A0 rfl) rfl (by first | omega | (simp only [C9, A8, szR] at *; omega)))) (fun a _ => (by first | exact F3 rfl | exact F3 (List.append_assoc _ _ _) | exact I3)) ?_
  intro v18_1 hone_v18_1
  have one_v18_1 := hone_v18_1.2
  refine F1 rfl rfl rfl (fun ext => P0 (places := #[(0, 1), (1, 1)]) rfl F4 Tryz.zeroValue125 (fun w => by kernel_rfl) rfl (D3 (A0 rfl) (O5 _) (D3 (A0 rfl) (U9 one_v18_1) I2)) rfl) ?_
  refine F1 rfl rfl rfl (fun ext => L2 rfl C7 E2 Tryz.zeroValue125 rfl rfl rfl rfl (D3 (A0 rfl) (F0 _) I2) rfl rfl) ?_
  refine T5 rfl rfl rfl (O4 (by' := 40) 1 rfl C7 Tryz.type125 rfl rfl rfl rfl rfl rfl (A0 rfl) (A0 rfl) rfl (by rw [Z8 (by rw [hinv.2, E4]; omega), A8, E4]; omega)) (fun a _ => (by first | exact F3 rfl | exact F3 (List.append_assoc _ _ _) | exact I3)) ?_
  intro v21_2 _
  refine g6 ?_
  refine B5 rfl ?_
  refine A4 ?_
  refine AWP.le (H4 [0, 0, 0] rfl) ?_
  refine AWP.le (g7 2 (t := nin TCell.ow (l.take (i + 1)) (xs ++ [v18_1])) (Al2 (ow := TCell.ow) (x := v18_1) hx hinv.2)) ?_
  refine A2 ?_
  refine A1 rfl (G7 rfl (A0 rfl) B6 (by first | omega | (simp only [C9, A8, szR] at *; omega))) ?_
  refine A5 rfl ?_
  refine A4 ?_
  refine X0 i v xs (i + 1) (v21_2) (xs ++ [v18_1]) ?_ ?_ (L5 1 (Eq.trans (by exact congrArg (fun z => Own.arr _ _ _ z :: _) (AW0 hx hinv.2)) (List.append_nil _).symm) ⟨rfl, rfl, rfl, rfl, rfl, trivial⟩)
  ·exact ⟨by omega, by rw [H5, hinv.2]; rfl⟩
  omega
 intro h9
 have k9 := of_decide_eq_false h9; try simp only [A9] at k9
 have hge : i = l.length := by omega
 have hxs := hinv.2.trans hge
 rw [show l.take i = l from List.take_of_length_le (by omega)]
 refine G9 ?_
 refine A3 (A2 ?_)
 refine A5 rfl ?_
 refine B5 rfl ?_
 refine A4 ?_
 refine C5 ?_
 exact f4 [0] 0 (nin TCell.ow l xs) [] (v, xs) (hxs) rfl (show List.Perm (nin TCell.ow l xs) ((nin TCell.ow l xs) ++ []) from W6) (by rfl) (P7 rfl (B8 rfl (by first | rfl | (refine congrArg AV.bool ?_; simp_all; done))))
end Go.Proofs.YtkegepoihkhihaaGreat

namespace Go.Proofs.YtkegepoihkhihaaGreat
open Go Go.AV Go.M
attribute [local irreducible] OpW OpA OpS AWP FSpec ESpec GSpec OpE RetOk RetOkG RvDen Le Ev GuardIs SrcIs
theorem AW8 (v vv : Value) (l : List (List AV)) (x : List AV) (hx2 : x.length = 2) (hl2 : ∀ r ∈ l, r.length = 2) (i : Nat) (hi : i ≤ l.length) (hl : l.length ≤ 4194304) : GSpec Tryz.prog 123 [AV.is v, AV.int i, AV.is vv] [.arr v 125 2 l, .arr vv 125 2 [x]] (fun _ : Value => True) (fun v => [.arr v 125 2 (l.take i ++ x :: l.drop i)]) (fun v => AV.is v) := by
  have := Aa5 v vv l x hx2 hl2 i hi hl
  simpa only [List.map_id, id_eq] using this
theorem BA5 {l : List TCell} {xs : List Value} : ∀ r ∈ nrows TCell.ocs l xs, r.length = 2 := fun r hr => by
  unfold nrows at hr
  obtain ⟨i, hi⟩ := List.getElem?_of_mem hr
  rw [List.getElem?_zipWith] at hi
  split at hi
  · injection hi with hi; subst hi; rfl
  · cases hi
theorem r5 {α : Type} {f : α → Nat} {l : List α} (i : Nat) : sizeL f (l.take i) ≤ sizeL f l := by
  have := q9 (f := f) (l := l.take i) (r := l.drop i)
  rw [List.take_append_drop] at this; omega
theorem d4 {α : Type} {f : α → Nat} {l : List α} {i : Nat} {x : α} (h : l[i]? = some x) : sizeL f (l.take (i + 1)) = sizeL f (l.take i) + (1 + f x) := by
  rw [List.take_add_one, h, q9]
  show _ + sizeL f [x] = _
  rw [N6]; rfl
def RowsTo (A : List (List AV)) (k : Str) (vs : List (List AV)) (B : List (List AV)) (D : List Own) (o2 : List TCell) (f : Value → List Value) : Prop :=
  ∀ y : Value, (f y).length = o2.length ∧ A ++ [AV.str k, AV.is y] :: B = nrows TCell.ocs o2 (f y) ∧ (Own.arr y 127 3 vs :: D).Perm (nin TCell.ow o2 (f y))
theorem AW9 {o : List TCell} {xs : List Value} {p : Nat} {c : TCell} {y0 : Value} (hc : o[p]? = some c) (hy : xs[p]? = some y0) (hl : xs.length = o.length) (nv : TVer) :
    RowsTo (nrows TCell.ocs (o.take p) (xs.take p)) c.Key (c.Vers.map TVer.cs ++ [TVer.cs nv]) (nrows TCell.ocs (o.drop (p + 1)) (xs.drop (p + 1))) (nin TCell.ow (o.eraseIdx p) (xs.eraseIdx p)) (o.set p ⟨c.Key, c.Vers ++ [nv]⟩) (fun y => xs.set p y) := fun y => by
  have hp := (List.getElem?_eq_some_iff.1 hc).1
  have hx := (List.getElem?_eq_some_iff.1 hy).1
  have hc' : (o.set p ⟨c.Key, c.Vers ++ [nv]⟩)[p]? = some ⟨c.Key, c.Vers ++ [nv]⟩ := List.getElem?_set_self hp
  have hy' : (xs.set p y)[p]? = some y := List.getElem?_set_self hx
  refine ⟨by rw [List.length_set, List.length_set, hl], ?_, ?_⟩
  · rw [v8 hc' hy', List.take_set_of_le (Nat.le_refl _), List.take_set_of_le (Nat.le_refl _), List.drop_set_of_lt (by omega), List.drop_set_of_lt (by omega)]
    rfl
  · have h := AG2 (ow := TCell.ow) hc' hy'
    rw [List.eraseIdx_set_eq, List.eraseIdx_set_eq] at h
    refine List.Perm.trans ?_ h.symm
    unfold TCell.ow
    simp only [List.map_append, List.map_cons, List.map_nil]
    exact List.Perm.refl _
theorem AX0 {o : List TCell} {xs : List Value} {p : Nat} (hp : p ≤ o.length) (hl : xs.length = o.length) (k : Str) (nv : TVer) :
    RowsTo ((nrows TCell.ocs o xs).take p) k [TVer.cs nv] ((nrows TCell.ocs o xs).drop p) (nin TCell.ow o xs) (o.take p ++ ⟨k, [nv]⟩ :: o.drop p) (fun y => xs.take p ++ y :: xs.drop p) := fun y =>
  ⟨by rw [Am7 (by omega), Am7 hp, hl], BA4 (ocs := TCell.ocs) (p := ⟨k, [nv]⟩) hp hl, nin_ins (ow := TCell.ow) (p := ⟨k, [nv]⟩) hp hl⟩
theorem t6 {l o : List TCell} {w : List TWrite} {t : Int} {i : Nat} {x : TWrite} (h : putAll l w t = putAll o (w.drop i) t) (hx : w[i]? = some x) (ht : ¬ t ≤ lastTime o x.Key) : putAll l w t = putAll (putC1 o x t) (w.drop (i + 1)) t := by
  rw [h, drop_some hx]
  unfold putAll
  rw [if_neg (by simpa using ht)]
  cases w.drop (i + 1) <;> rfl
theorem Am8 {l o : List TCell} {w : List TWrite} {t : Int} {i : Nat} {x : TWrite} (h : putAll l w t = putAll o (w.drop i) t) (hx : w[i]? = some x) (ht : t ≤ lastTime o x.Key) : putAll l w t = none := by
  rw [h, drop_some hx]
  unfold putAll
  rw [if_pos (by simpa using ht)]
theorem At3 {l o : List TCell} {w : List TWrite} {t : Int} {i : Nat} (h : putAll l w t = putAll o (w.drop i) t) (hi : w.length ≤ i) : putAll l w t = some o := by
  rw [h, List.drop_eq_nil_of_le hi]; rfl
theorem Am9 (l : List TCell) (w : List TWrite) (t : Int) (ho : CellsOk l) (hs : sizeL TCell.size l ≤ 1048576) (hw : sizeL TWrite.size w ≤ 1048576) : GSpec Tryz.prog 79 [AV.list 2 (l.map TCell.cs), AV.list 3 (w.map TWrite.cs), AV.int t] [] (fun x : Value × List Value => x.2.length = (putCells l w t).1.length) (fun x => .arr x.1 125 2 (nrows TCell.ocs (putCells l w t).1 x.2) :: nin TCell.ow (putCells l w t).1 x.2) (fun x => AV.tup [AV.is x.1, AV.bool (putCells l w t).2]) := by
 have hwl : w.length ≤ 1048576 := Nat.le_trans O2 hw
 refine I9 Tryz.func79 rfl Tryz.ntmps79 rfl ?_
 refine A3 (A2 ?_)
 refine A1 rfl (B7 rfl M4) ?_
 refine A1 rfl (B7 rfl F8) ?_
 refine A4 (A3 (A2 ?_))
 refine A5 rfl ?_
 refine AL5 [] 0 1 ([]) ([]) (fun zz => nin TCell.ow l zz.2) rfl rfl rfl rfl Tryz.call78 rfl rfl (show List.Perm ([]) (([]) ++ ([])) from List.Perm.refl _) (AJ7 l (by omega)) (A7 (A0 rfl) C6) (fun a => AS9) ?_
 intro x14 ok14
 refine B5 rfl ?_
 refine A4 (A3 (A3 (A2 ?_)))
 refine A5 rfl ?_
 refine A1 rfl (H2 rfl G0 (A0 rfl)) ?_
 refine A1 rfl (B9 rfl B6) ?_
 refine A4 (D1 ?_)
 refine d9 [(2, _), (15, _), (16, _)] [] (fun (i : Nat) (v : Value) (q : List TCell) (xs : List Value) => i ≤ w.length ∧ xs.length = q.length ∧ CellsOk q ∧ sizeL TCell.size q ≤ 1048576 + 2 * sizeL TWrite.size (w.take i) ∧ putAll l w t = putAll q (w.drop i) t) (fun (i : Nat) (v : Value) (q : List TCell) (xs : List Value) => [.arr v 125 2 (nrows TCell.ocs q xs)] ++ (nin TCell.ow q xs)) (fun (i : Nat) (v : Value) (q : List TCell) (xs : List Value) => [(8, AV.is v), (17, AV.int i)]) (fun (i : Nat) (v : Value) (q : List TCell) (xs : List Value) => w.length - i) (0) (x14.1) (l) (x14.2) ?_ (S6 (by rw [List.append_nil]; rfl) ⟨rfl, rfl, rfl, rfl, rfl, trivial⟩) ?_
 ·exact ⟨Nat.zero_le _, ok14, ho, by omega, rfl⟩
 intro i v q xs hinv
 have hlen := hinv.2.1
 refine N7 (List.append_nil _) ?_
 refine A3 (A2 ?_)
 refine A1 rfl (K5 rfl (A0 rfl) (A0 rfl)) ?_
 refine A4 (A3 ?_)
 refine C4 (A0 rfl) ?_ ?_
 ·intro h18
  have k18 := of_decide_eq_true h18; try simp only [A9] at k18
  have hlt : i < w.length := by omega
  obtain ⟨x, hx⟩ := get_some hlt
  have htk := r5 (f := TWrite.size) (l := w) i
  have hso : sizeL TCell.size q ≤ 4194304 := by omega
  have hol : q.length ≤ 4194304 := Nat.le_trans O2 hso
  refine C8 (A3 (D1 (A3 (A2 ?_))))
  refine A1 rfl (J4 rfl G0 H6 (A0 rfl) (A0 rfl) hx (by first | omega | (simp only [C9, A8, szR] at *; omega))) ?_
  refine A1 rfl (L4 rfl (A0 rfl) T9 H6) ?_
  refine G3 rfl rfl rfl rfl Tryz.zeroValue101 rfl ?_
  intro b10
  refine D7 0 rfl rfl rfl (A0 rfl) (A0 rfl) (F0 _) rfl H6 rfl ?_
  refine A4 (A3 (A3 (A2 ?_)))
  refine A5 rfl ?_
  refine A5 rfl ?_
  refine A1 rfl (B1 0 rfl H0 rfl E5 (A0 rfl) rfl) ?_
  refine A1 rfl (B0 0 rfl (A0 rfl) rfl F7 rfl) ?_
  refine A1 rfl (f7 rfl Tryz.call92 rfl (z8 q x.Key hinv.2.2.1 hso) (D8 _ _) (P3 (q6 (A0 rfl) (j0 TCell.lcM (by first | exact hlen | exact hlen.trans (j3 _ _).symm) 1 rfl (fun o ho => List.mem_of_mem_drop (i := 2) (show o ∈ nin TCell.ow q xs from by first | exact ho | exact List.mem_append_left _ ho | exact List.mem_append_right _ ho | exact List.mem_append_right _ (List.mem_append_left _ ho) | exact List.mem_append_right _ (List.mem_append_right _ ho))))) (P3 (evb (A0 rfl)) X3))) ?_
  refine A1 rfl (V0 rfl (A0 rfl) (A0 rfl)) ?_
  refine A4 ?_
  refine C4 (A0 rfl) ?_ ?_
  ·intro h26
   have k26 := of_decide_eq_true h26; try simp only [A9] at k26
   have he : putCells l w t = ([], false) := by unfold putCells; rw [Am8 hinv.2.2.2.2 hx k26]
   rw [he]
   refine A3 (A2 ?_)
   refine A1 rfl (B7 rfl M4) ?_
   refine A1 rfl (B7 rfl F8) ?_
   refine A4 ?_
   refine C5 ?_
   refine Y2 125 2 ?_
   first | exact M3 [0] ((Value.slice none 0 0), []) (rfl) rfl (by rfl) (T2 rfl (by decide) (F2 (B8 rfl (by rfl)) (F2 (B8 rfl (by rfl)) L7))) | exact f4 [0] 2 (nin TCell.ow q xs) [] ((Value.slice none 0 0), []) (rfl) rfl (show List.Perm (nin TCell.ow q xs) ((nin TCell.ow q xs) ++ []) from W6) (by rfl) (T2 rfl (by decide) (F2 (B8 rfl (by rfl)) (F2 (B8 rfl (by rfl)) L7))) | exact M3 [0] ((Value.slice none 0 0), xs) (hinv.2.1) rfl (by rfl) (T2 rfl (by decide) (F2 (B8 rfl (by rfl)) (F2 (B8 rfl (by rfl)) L7))) | exact f4 [0] 2 (nin TCell.ow q xs) [] ((Value.slice none 0 0), xs) (hinv.2.1) rfl (show List.Perm (nin TCell.ow q xs) ((nin TCell.ow q xs) ++ []) from W6) (by rfl) (T2 rfl (by decide) (F2 (B8 rfl (by rfl)) (F2 (B8 rfl (by rfl)) L7)))
  intro h26
  have k26 := of_decide_eq_false h26; try simp only [A9] at k26
  refine C8 (A3 (A2 ?_))
  refine A5 rfl ?_
  refine A1 rfl (B1 0 rfl H0 rfl E5 (A0 rfl) rfl) ?_
  refine A1 rfl (B0 0 rfl (A0 rfl) rfl F7 rfl) ?_
  refine A1 rfl (f7 rfl Tryz.call122 rfl (z7 q x.Key (by omega)) (Z2 (C1 (D8 _ _) (C1 (D5 _) D6))) (P3 (q6 (A0 rfl) (j0 TCell.lcM (by first | exact hlen | exact hlen.trans (j3 _ _).symm) 1 rfl (fun o ho => List.mem_of_mem_drop (i := 2) (show o ∈ nin TCell.ow q xs from by first | exact ho | exact List.mem_append_left _ ho | exact List.mem_append_right _ ho | exact List.mem_append_right _ (List.mem_append_left _ ho) | exact List.mem_append_right _ (List.mem_append_right _ ho))))) (P3 (evb (A0 rfl)) X3))) ?_
  refine A5 rfl ?_
  refine A1 rfl (I8 rfl (A0 rfl) rfl) ?_
  refine A1 rfl (I8 rfl (A0 rfl) rfl) ?_
  refine B5 rfl ?_
  refine B5 rfl ?_
  refine A4 (A3 (A3 (A2 ?_)))
  refine A5 rfl ?_
  refine A1 rfl (M5 rfl (A0 rfl)) ?_
  refine A4 ?_
  refine C4 (A0 rfl) ?_ ?_
  ·intro h35
   have hn : cHas q x.Key = false := by simpa using h35
   have hpl : cPos q x.Key ≤ (nrows TCell.ocs q xs).length := by rw [Z8 hlen]; exact AZ5 _ _
   have hA : ((nrows TCell.ocs q xs).take (cPos q x.Key)).length = cPos q x.Key := by rw [E4]; omega
   obtain ⟨fx, hto⟩ : ∃ fx, RowsTo ((nrows TCell.ocs q xs).take (cPos q x.Key)) x.Key [TVer.cs ⟨t, x.Val, x.Gone⟩] ((nrows TCell.ocs q xs).drop (cPos q x.Key)) (nin TCell.ow q xs) (putC1 q x t) fx := ⟨_, by unfold putC1; rw [pos_new hinv.2.2.1.1 hn]; exact AX0 (AZ5 _ _) hlen _ _⟩
   refine A2 ?_
   refine A5 rfl ?_
   refine A5 rfl ?_
   refine A1 rfl (B1 0 rfl H0 rfl E5 (A0 rfl) rfl) ?_
   refine A1 rfl (B0 0 rfl (A0 rfl) rfl F7 rfl) ?_
   refine A1 rfl (P0 (places := #[(0, 1), (1, 1)]) rfl F4 Tryz.zeroValue125 (fun w => by kernel_rfl) rfl (D3 (A0 rfl) (O5 _) I2) rfl) ?_
   refine AV2 rfl rfl rfl rfl C7 E2 Tryz.zeroValue125 rfl rfl rfl rfl (D3 (A0 rfl) (F0 _) I2) rfl rfl ?_
   intro v41
   refine J9 [2, 0] rfl rfl rfl rfl Tryz.call123 rfl (AW8 _ _ (nrows TCell.ocs q xs) [AV.str x.Key, AV.nils] rfl BA5 (cPos q x.Key) hpl (by rw [Z8 hlen]; omega)) (A7 (A0 rfl) (A7 (A0 rfl) (A7 (A0 rfl) C6))) rfl ?_
   intro x42 ok42
   refine Ay5 127 3 ?_
   refine B5 rfl ?_
   refine A4 ?_
   refine AWP.le (H4 [2, 1, 0] rfl) ?_
   refine S3 _ [(0, false), (1, false), (2, false), (3, false), (4, false), (5, false), (6, false), (7, false), (8, false), (9, false), (10, false), (11, false), (12, false), (13, false), (14, true)] (by kernel_rfl) (by kernel_rfl) rfl (V3 2) ?_
   refine F1 rfl rfl rfl (fun ext => B9 rfl (A0 rfl)) ?_
   refine F1 rfl rfl rfl (fun ext => B9 rfl (A0 rfl)) ?_
   refine F1 rfl rfl rfl (fun ext => B9 rfl (A0 rfl)) ?_
   refine F1 rfl rfl rfl (fun ext => B9 rfl (A0 rfl)) ?_
   refine F1 rfl rfl rfl (fun ext => U2 1 rfl C7 E2 (A0 rfl) rfl (A0 rfl) (by omega) (by rw [H5, I5]; omega)) ?_
   refine F1 rfl rfl rfl (fun ext => l7 1 rfl F4 rfl K1 (A0 rfl) rfl rfl (c0 hA)) ?_
   refine F1 rfl rfl rfl (fun ext => s5 1 rfl (A0 rfl) rfl N5 (c0 hA) rfl) ?_
   refine F1 rfl rfl rfl (fun ext => B9 rfl (A0 rfl)) ?_
   refine F1 rfl rfl rfl (fun ext => B1 1 rfl H0 rfl E5 (A0 rfl) rfl) ?_
   refine F1 rfl rfl rfl (fun ext => B0 0 rfl (A0 rfl) rfl F7 rfl) ?_
   refine F1 rfl rfl rfl (fun ext => B1 2 rfl H0 rfl J1 (A0 rfl) rfl) ?_
   refine F1 rfl rfl rfl (fun ext => B0 0 rfl (A0 rfl) rfl K9 rfl) ?_
   refine F1 rfl rfl rfl (fun ext => P0 (places := #[(0, 1), (1, 1), (2, 1)]) rfl J8 Tryz.zeroValue127 (fun w => by kernel_rfl) rfl (D3 (A0 rfl) (K4 _ _) (D3 (A0 rfl) (O5 _) (D3 (A0 rfl) (W7 _) I2))) rfl) ?_
   refine F1 rfl rfl rfl (fun ext => L2 rfl G8 L1 Tryz.zeroValue127 rfl rfl rfl rfl (D3 (A0 rfl) (F0 _) I2) rfl rfl) ?_
   refine T5 rfl rfl rfl (O4 (by' := 32) 2 rfl G8 Tryz.type127 rfl rfl rfl rfl rfl rfl (A0 rfl) (A0 rfl) rfl (by first | omega | (simp only [C9, A8, szR] at *; omega))) (fun a _ => (by first | exact F3 rfl | exact F3 (List.append_assoc _ _ _) | exact I3)) ?_
   intro v57_2 _
   refine g6 ?_
   refine A1 rfl (U2 1 rfl C7 E2 (A0 rfl) rfl (A0 rfl) (by omega) (by rw [H5, I5]; omega)) ?_
   refine A1 rfl (l7 1 rfl F4 rfl K1 (A0 rfl) rfl rfl (c0 hA)) ?_
   refine V2 2 rfl fun one_v57_2 => ?_
   refine q7 1 rfl rfl rfl (A0 rfl) (A0 rfl) (U9 one_v57_2) rfl K1 hA rfl ?_
   refine A4 ?_
   refine AWP.le (H4 [0, 0, 0] rfl) ?_
   refine AWP.le (g7 2 (t := nin TCell.ow (putC1 q x t) (fx v57_2)) ((hto v57_2).2.2)) ?_
   refine AWP.le (H4 [0] rfl) ?_
   refine A2 ?_
   refine A1 rfl (G7 rfl (A0 rfl) B6 (by first | omega | (simp only [C9, A8, szR] at *; omega))) ?_
   refine A5 rfl ?_
   refine A4 ?_
   refine T8 i v q xs (i + 1) (x42) (putC1 q x t) (fx v57_2) ?_ ?_ (L5 1 (Eq.trans (by exact congrArg (fun z => Own.arr _ _ _ z :: _) (hto v57_2).2.1) (List.append_nil _).symm) ⟨rfl, rfl, rfl, rfl, rfl, trivial⟩)
   ·exact ⟨by omega, (hto _).1, e7 hinv.2.2.1 _ _, by have h8 := i8 q x t; have h9 := d4 (f := TWrite.size) hx; omega, t6 hinv.2.2.2.2 hx k26⟩
   omega
  intro h35
  have hn : cHas q x.Key = true := by simpa using h35
  obtain ⟨c, hc, hck, hins⟩ := pos_has hinv.2.2.1.1 hn ⟨t, x.Val, x.Gone⟩
  have hpo := (List.getElem?_eq_some_iff.1 hc).1
  obtain ⟨y, hy⟩ := get_some (show cPos q x.Key < xs.length by omega)
  have hA := AW1 (ocs := TCell.ocs) hc hy
  obtain ⟨fx, hto⟩ : ∃ fx, RowsTo (nrows TCell.ocs (q.take (cPos q x.Key)) (xs.take (cPos q x.Key))) c.Key (c.Vers.map TVer.cs ++ [TVer.cs ⟨t, x.Val, x.Gone⟩]) (nrows TCell.ocs (q.drop (cPos q x.Key + 1)) (xs.drop (cPos q x.Key + 1))) (nin TCell.ow (q.eraseIdx (cPos q x.Key)) (xs.eraseIdx (cPos q x.Key))) (putC1 q x t) fx := ⟨_, by have h7 := AW9 hc hy hlen ⟨t, x.Val, x.Gone⟩; unfold putC1; rw [hins, ← hck]; rw [hck] at h7 ⊢; exact h7⟩
  have hcs := f0 (Nat.le_trans (X6 hc) hso)
  rw [v8 hc hy]
  refine AWP.le (g7 2 (t := (TCell.ow c y) ++ (nin TCell.ow (q.eraseIdx (cPos q x.Key)) (xs.eraseIdx (cPos q x.Key)))) (AG2 (ow := TCell.ow) hc hy)) ?_
  refine C8 ?_
  refine AWP.le (H4 [0, 0, 0] rfl) ?_
  refine S3 _ [(0, false), (1, false), (2, false), (3, false), (4, false), (5, false), (6, false), (7, false), (8, false), (9, false), (10, false), (11, false), (12, false), (13, false), (14, true)] (by kernel_rfl) (by kernel_rfl) rfl (V3 2) ?_
  refine F1 rfl rfl rfl (fun ext => B9 rfl (A0 rfl)) ?_
  refine F1 rfl rfl rfl (fun ext => B9 rfl (A0 rfl)) ?_
  refine F1 rfl rfl rfl (fun ext => B9 rfl (A0 rfl)) ?_
  refine F1 rfl rfl rfl (fun ext => B9 rfl (A0 rfl)) ?_
  refine F1 rfl rfl rfl (fun ext => U2 1 rfl C7 E2 (A0 rfl) rfl (A0 rfl) (by omega) (by rw [H5, I5]; omega)) ?_
  refine F1 rfl rfl rfl (fun ext => l7 1 rfl F4 rfl K1 (A0 rfl) rfl rfl (c0 hA)) ?_
  refine F1 rfl rfl rfl (fun ext => s5 1 rfl (A0 rfl) rfl N5 (c0 hA) rfl) ?_
  refine F1 rfl rfl rfl (fun ext => B9 rfl (A0 rfl)) ?_
  refine F1 rfl rfl rfl (fun ext => B1 1 rfl H0 rfl E5 (A0 rfl) rfl) ?_
  refine F1 rfl rfl rfl (fun ext => B0 0 rfl (A0 rfl) rfl F7 rfl) ?_
  refine F1 rfl rfl rfl (fun ext => B1 2 rfl H0 rfl J1 (A0 rfl) rfl) ?_
  refine F1 rfl rfl rfl (fun ext => B0 0 rfl (A0 rfl) rfl K9 rfl) ?_
  refine F1 rfl rfl rfl (fun ext => P0 (places := #[(0, 1), (1, 1), (2, 1)]) rfl J8 Tryz.zeroValue127 (fun w => by kernel_rfl) rfl (D3 (A0 rfl) (K4 _ _) (D3 (A0 rfl) (O5 _) (D3 (A0 rfl) (W7 _) I2))) rfl) ?_
  refine F1 rfl rfl rfl (fun ext => L2 rfl G8 L1 Tryz.zeroValue127 rfl rfl rfl rfl (D3 (A0 rfl) (F0 _) I2) rfl rfl) ?_
  refine T5 rfl rfl rfl (O4 (by' := 32) 2 rfl G8 Tryz.type127 rfl rfl rfl rfl rfl rfl (A0 rfl) (A0 rfl) rfl (by first | omega | (simp only [C9, A8, szR] at *; omega))) (fun a _ => (by first | exact F3 rfl | exact F3 (List.append_assoc _ _ _) | exact I3)) ?_
  intro v57_3 _
  refine g6 ?_
  refine A1 rfl (U2 1 rfl C7 E2 (A0 rfl) rfl (A0 rfl) (by omega) (by rw [H5, I5]; omega)) ?_
  refine A1 rfl (l7 1 rfl F4 rfl K1 (A0 rfl) rfl rfl (c0 hA)) ?_
  refine V2 2 rfl fun one_v57_3 => ?_
  refine q7 1 rfl rfl rfl (A0 rfl) (A0 rfl) (U9 one_v57_3) rfl K1 hA rfl ?_
  refine A4 ?_
  refine AWP.le (H4 [0, 0, 0] rfl) ?_
  refine AWP.le (g7 2 (t := nin TCell.ow (putC1 q x t) (fx v57_3)) ((hto v57_3).2.2)) ?_
  refine AWP.le (H4 [0] rfl) ?_
  refine A2 ?_
  refine A1 rfl (G7 rfl (A0 rfl) B6 (by first | omega | (simp only [C9, A8, szR] at *; omega))) ?_
  refine A5 rfl ?_
  refine A4 ?_
  refine T8 i v q xs (i + 1) (v) (putC1 q x t) (fx v57_3) ?_ ?_ (L5 1 (Eq.trans (by exact congrArg (fun z => Own.arr _ _ _ z :: _) (hto v57_3).2.1) (List.append_nil _).symm) ⟨rfl, rfl, rfl, rfl, rfl, trivial⟩)
  ·exact ⟨by omega, (hto _).1, e7 hinv.2.2.1 _ _, by have h8 := i8 q x t; have h9 := d4 (f := TWrite.size) hx; omega, t6 hinv.2.2.2.2 hx k26⟩
  omega
 intro h18
 have k18 := of_decide_eq_false h18; try simp only [A9] at k18
 have hge : w.length ≤ i := by omega
 have hpe := At3 hinv.2.2.2.2 hge
 have htk := r5 (f := TWrite.size) (l := w) i
 have hso : sizeL TCell.size q ≤ 4194304 := by omega
 refine G9 ?_
 refine A3 (A3 (A2 ?_))
 refine A5 rfl ?_
 refine A1 rfl (f7 rfl Tryz.call77 rfl (t1 q hso) (D5 _) (P3 (q6 (A0 rfl) (j0 TCell.lcM (by first | exact hlen | exact hlen.trans (j3 _ _).symm) 0 rfl (fun o ho => List.mem_of_mem_drop (i := 1) (show o ∈ nin TCell.ow q xs from by first | exact ho | exact List.mem_append_left _ ho | exact List.mem_append_right _ ho | exact List.mem_append_right _ (List.mem_append_left _ ho) | exact List.mem_append_right _ (List.mem_append_right _ ho))))) X3)) ?_
 refine A1 rfl (M5 rfl (A0 rfl)) ?_
 refine A4 ?_
 refine C4 (A0 rfl) ?_ ?_
 ·intro h63
  have he : putCells l w t = ([], false) := by unfold putCells; rw [hpe]; simp only; rw [if_pos h63]
  rw [he]
  refine A3 (A2 ?_)
  refine A1 rfl (B7 rfl M4) ?_
  refine A1 rfl (B7 rfl F8) ?_
  refine A4 ?_
  refine C5 ?_
  refine Y2 125 2 ?_
  first | exact M3 [0] ((Value.slice none 0 0), []) (rfl) rfl (by rfl) (T2 rfl (by decide) (F2 (B8 rfl (by rfl)) (F2 (B8 rfl (by rfl)) L7))) | exact f4 [0] 1 (nin TCell.ow q xs) [] ((Value.slice none 0 0), []) (rfl) rfl (show List.Perm (nin TCell.ow q xs) ((nin TCell.ow q xs) ++ []) from W6) (by rfl) (T2 rfl (by decide) (F2 (B8 rfl (by rfl)) (F2 (B8 rfl (by rfl)) L7))) | exact M3 [0] ((Value.slice none 0 0), xs) (hinv.2.1) rfl (by rfl) (T2 rfl (by decide) (F2 (B8 rfl (by rfl)) (F2 (B8 rfl (by rfl)) L7))) | exact f4 [0] 1 (nin TCell.ow q xs) [] ((Value.slice none 0 0), xs) (hinv.2.1) rfl (show List.Perm (nin TCell.ow q xs) ((nin TCell.ow q xs) ++ []) from W6) (by rfl) (T2 rfl (by decide) (F2 (B8 rfl (by rfl)) (F2 (B8 rfl (by rfl)) L7)))
 intro h63
 have he : putCells l w t = (q, true) := by unfold putCells; rw [hpe]; simp only; rw [if_neg (by rw [h63]; decide)]
 rw [he]
 refine C8 (A3 (A2 ?_))
 refine A5 rfl ?_
 refine B5 rfl ?_
 refine A1 rfl (B7 rfl F8) ?_
 refine A4 ?_
 refine C5 ?_
 first | exact M3 [0] (v, []) (rfl) rfl (by rfl) (T2 rfl (by decide) (F2 (B8 rfl (by rfl)) (F2 (B8 rfl (by rfl)) L7))) | exact f4 [0] 0 (nin TCell.ow q xs) [] (v, []) (rfl) rfl (show List.Perm (nin TCell.ow q xs) ((nin TCell.ow q xs) ++ []) from W6) (by rfl) (T2 rfl (by decide) (F2 (B8 rfl (by rfl)) (F2 (B8 rfl (by rfl)) L7))) | exact f4 [0] 0 (nin TCell.ow q xs) [] (v, xs) (hinv.2.1) rfl (show List.Perm (nin TCell.ow q xs) ((nin TCell.ow q xs) ++ []) from W6) (by rfl) (T2 rfl (by decide) (F2 (B8 rfl (by rfl)) (F2 (B8 rfl (by rfl)) L7)))
end Go.Proofs.YtkegepoihkhihaaGreat
