/- Texts of the claim, part 4. -/
import Derived.Sort.OwnSortedInts
import Derived.Sort.EncStr
import Derived.Shelf.GgSortFunc.RowK
import Derived.Shelf.Sort.Plain
import Derived.Shelf.Slices.In.SortNone
import Derived.Test.YtoaoicnnimjbeaaGreatProg
import Derived.Test.YtoaoicnnimjbeaaGreatZShares3

set_option linter.unusedVariables false
set_option linter.unusedSimpArgs false
set_option maxRecDepth 100000
set_option maxHeartbeats 1000000
namespace Go.Proofs.YtoaoicnnimjbeaaGreat
open Go Go.AV Go.M
attribute [local irreducible] OpW OpA OpS AWP FSpec ESpec GSpec OpE RetOk RetOkG RvDen Le Ev GuardIs SrcIs Int.tmod Int.tdiv IntKind.wrap
theorem r6 (n : Int) : FSpec Tryz.prog 69 [AV.int n] (AV.bool (isTxnR n)) := by
 refine E2 Tryz.func69 rfl Tryz.ntmps69 rfl ?_
 refine A3 (A2 ?_)
 refine A1 rfl (B6 rfl E9) ?_
 refine A4 (A3 (A2 ?_))
 refine A5 rfl ?_
 refine A1 rfl (D7 rfl Tryz.call61 rfl (m0 _ _ _) (A6 (A0 rfl) (A6 B4 (A6 B4 C0)))) ?_
 refine B3 rfl ?_
 refine A4 ?_
 refine C2 ?_
 exact I3 rfl (C1 rfl (by rfl))
theorem AT9 {r : TRec} (hs : r.size ≤ 1048576) : (∀ k ∈ r.Reads, k.length ≤ 4611686018427387904) ∧ sizeL TWrite.size r.Writes ≤ 1048576 ∧ r.Reads.length ≤ 1048576 ∧ r.Writes.length ≤ 1048576 := by
  unfold TRec.size at hs
  have h1 := O4 (f := fun x : Str => x.length) (l := r.Reads)
  have h2 := O4 (f := TWrite.size) (l := r.Writes)
  exact ⟨fun k hk => by have := o7 (f := fun x : Str => x.length) hk; omega, by omega, by omega, by omega⟩
theorem AU0 (r : TRec) (hs : r.size ≤ 1048576) : FSpec Tryz.prog 100 [AV.agg r.cs] (AV.bool (goodRec r)) := by
 obtain ⟨hr1, hr2, hr3, hr4⟩ := AT9 hs
 refine E2 Tryz.func100 rfl Tryz.ntmps100 rfl ?_
 refine A3 (A2 ?_)
 refine N1 rfl rfl rfl rfl (A0 rfl) ?_
 intro b1
 refine A1 rfl (B6 rfl E9) ?_
 refine A4 (A3 (A2 ?_))
 refine A1 rfl (B1 3 rfl B7 rfl B5 (A0 rfl) rfl) ?_
 refine A1 rfl (B0 0 rfl (A0 rfl) rfl C6 rfl) ?_
 refine A1 rfl (O1 rfl (A0 rfl) B4) ?_
 refine A5 rfl ?_
 refine D3 rfl (fun hc => B1 4 rfl B7 rfl H5 (A0 rfl) rfl) ?_
 refine D3 rfl (fun hc => B0 0 rfl (A9 rfl hc) rfl K7 rfl) ?_
 refine D3 rfl (fun hc => F6 rfl C9 (A9 rfl hc)) ?_
 refine D3 rfl (fun hc => O1 rfl (A9 rfl hc) B4) ?_
 refine A1 rfl (J5 rfl (A0 rfl) (F7 rfl)) ?_
 refine A5 rfl ?_
 refine D3 rfl (fun hc => B1 5 rfl B7 rfl L0 (A0 rfl) rfl) ?_
 refine D3 rfl (fun hc => B0 0 rfl (A9 rfl hc) rfl M3 rfl) ?_
 refine D3 rfl (fun hc => F6 rfl D1 (A9 rfl hc)) ?_
 refine D3 rfl (fun hc => O1 rfl (A9 rfl hc) B4) ?_
 refine A1 rfl (J5 rfl (A0 rfl) (F7 rfl)) ?_
 refine B3 rfl ?_
 refine A4 (A3 (A3 (A2 ?_)))
 refine A1 rfl (B1 0 rfl B7 rfl B5 (A0 rfl) rfl) ?_
 refine A1 rfl (B0 0 rfl (A0 rfl) rfl C6 rfl) ?_
 refine A4 (C7 (A3 (A2 ?_)))
 refine A1 rfl (O1 rfl (A0 rfl) B4) ?_
 refine B3 rfl ?_
 refine A4 ?_
 refine B9 (A0 rfl) ?_ ?_
 ·intro h21
  have k21 := M7 h21; try simp only [A8] at k21
  refine A3 (A2 ?_)
  refine A1 rfl (B1 1 rfl B7 rfl B5 (A0 rfl) rfl) ?_
  refine A1 rfl (B0 0 rfl (A0 rfl) rfl C6 rfl) ?_
  refine A1 rfl (D7 rfl Tryz.call69 rfl (r6 _) (A6 (A0 rfl) C0)) ?_
  refine A5 rfl ?_
  refine D3 rfl (fun hc => B1 2 rfl B7 rfl B5 (A0 rfl) rfl) ?_
  refine D3 rfl (fun hc => B0 0 rfl (A9 rfl hc) rfl C6 rfl) ?_
  refine D3 rfl (fun hc => D7 rfl Tryz.call122 rfl (o1 _) (A6 (A9 rfl hc) C0)) ?_
  refine A1 rfl (J5 rfl (A0 rfl) (F7 rfl)) ?_
  refine A5 rfl ?_
  refine D3 rfl (fun hc => B1 3 rfl B7 rfl B5 (A0 rfl) rfl) ?_
  refine D3 rfl (fun hc => B0 0 rfl (A9 rfl hc) rfl C6 rfl) ?_
  refine D3 rfl (fun hc => D7 rfl Tryz.call61 rfl (m0 _ _ _) (A6 (A9 rfl hc) (A6 B4 (A6 B4 C0)))) ?_
  refine A1 rfl (J5 rfl (A0 rfl) (F7 rfl)) ?_
  refine A5 rfl ?_
  refine D3 rfl (fun hc => B1 4 rfl B7 rfl H5 (A0 rfl) rfl) ?_
  refine D3 rfl (fun hc => B0 0 rfl (A9 rfl hc) rfl K7 rfl) ?_
  refine D3 rfl (fun hc => F6 rfl C9 (A9 rfl hc)) ?_
  refine D3 rfl (fun hc => X2 rfl (A9 rfl hc) B4) ?_
  refine A1 rfl (J5 rfl (A0 rfl) (F7 rfl)) ?_
  refine A5 rfl ?_
  refine D3 rfl (fun hc => B1 4 rfl B7 rfl H5 (A0 rfl) rfl) ?_
  refine D3 rfl (fun hc => B0 0 rfl (A9 rfl hc) rfl K7 rfl) ?_
  refine D3 rfl (fun hc => D7 rfl Tryz.call32 rfl (q6 r.Reads hr1) (A6 (A9 rfl hc) C0)) ?_
  refine A1 rfl (J5 rfl (A0 rfl) (F7 rfl)) ?_
  refine A5 rfl ?_
  refine D3 rfl (fun hc => B1 5 rfl B7 rfl L0 (A0 rfl) rfl) ?_
  refine D3 rfl (fun hc => B0 0 rfl (A9 rfl hc) rfl M3 rfl) ?_
  refine D3 rfl (fun hc => F6 rfl D1 (A9 rfl hc)) ?_
  refine D3 rfl (fun hc => X2 rfl (A9 rfl hc) B4) ?_
  refine A1 rfl (J5 rfl (A0 rfl) (F7 rfl)) ?_
  refine A5 rfl ?_
  refine D3 rfl (fun hc => B1 5 rfl B7 rfl L0 (A0 rfl) rfl) ?_
  refine D3 rfl (fun hc => B0 0 rfl (A9 rfl hc) rfl M3 rfl) ?_
  refine D3 rfl (fun hc => D7 rfl Tryz.call80 rfl (AG9 r.Writes (by omega)) (A6 (A9 rfl hc) C0)) ?_
  refine A1 rfl (J5 rfl (A0 rfl) (F7 rfl)) ?_
  refine A5 rfl ?_
  refine D3 rfl (fun hc => B1 4 rfl B7 rfl H5 (A0 rfl) rfl) ?_
  refine D3 rfl (fun hc => B0 0 rfl (A9 rfl hc) rfl K7 rfl) ?_
  refine D3 rfl (fun hc => F6 rfl C9 (A9 rfl hc)) ?_
  refine D3 rfl (fun hc => B1 5 rfl B7 rfl L0 (A0 rfl) rfl) ?_
  refine D3 rfl (fun hc => B0 0 rfl (A9 rfl hc) rfl M3 rfl) ?_
  refine D3 rfl (fun hc => F6 rfl D1 (A9 rfl hc)) ?_
  refine D3 rfl (fun hc => G0 rfl (A9 rfl hc) (A9 rfl hc) (by first | omega | ((try simp only [C8, A7, szR] at *); omega) | (have hc2 := hc; simp only [Q0, beq_iff_eq, bne_iff_ne, A8, D9] at hc2; omega))) ?_
  refine D3 rfl (fun hc => R8 rfl (A9 rfl hc) B4) ?_
  refine A1 rfl (J5 rfl (A0 rfl) (F7 rfl)) ?_
  refine A5 rfl ?_
  refine D3 rfl (fun hc => B1 6 rfl B7 rfl N2 (A0 rfl) rfl) ?_
  refine D3 rfl (fun hc => B0 0 rfl (A9 rfl hc) rfl O5 rfl) ?_
  refine D3 rfl (fun hc => M2 rfl (A9 rfl hc)) ?_
  refine A1 rfl (J5 rfl (A0 rfl) (F7 rfl)) ?_
  refine B3 rfl ?_
  refine A4 ?_
  refine C2 ?_
  exact I3 rfl (C1 rfl (by first | (exfalso; omega) | exact congrArg AV.bool (by unfold goodRec good1 good2 good4 bareR; simp [*])))
 intro h21
 have k21 := M6 h21; try simp only [A8] at k21
 refine A3 (A3 (A2 ?_))
 refine A1 rfl (O1 rfl (A0 rfl) B4) ?_
 refine B3 rfl ?_
 refine A4 ?_
 refine B9 (A0 rfl) ?_ ?_
 ·intro h73
  have k73 := M7 h73; try simp only [A8] at k73
  refine C3 ?_
  refine B9 (A0 rfl) ?_ ?_
  ·intro h73
   have k73 := M7 h73; try simp only [A8] at k73
   refine A3 (A2 ?_)
   refine A5 rfl ?_
   refine A5 rfl ?_
   refine D3 rfl (fun hc => B1 1 rfl B7 rfl B5 (A0 rfl) rfl) ?_
   refine D3 rfl (fun hc => B0 0 rfl (A9 rfl hc) rfl C6 rfl) ?_
   refine D3 rfl (fun hc => D7 rfl Tryz.call69 rfl (r6 _) (A6 (A9 rfl hc) C0)) ?_
   refine A1 rfl (J5 rfl (A0 rfl) (F7 rfl)) ?_
   refine A5 rfl ?_
   refine D3 rfl (fun hc => B1 6 rfl B7 rfl N2 (A0 rfl) rfl) ?_
   refine D3 rfl (fun hc => B0 0 rfl (A9 rfl hc) rfl O5 rfl) ?_
   refine D3 rfl (fun hc => B8 rfl (A9 rfl hc)) ?_
   refine J7 rfl rfl (E6 rfl rfl rfl) (fun hc => B1 2 rfl B7 rfl B5 (A0 rfl) rfl) ?_
   refine J7 rfl rfl (E6 rfl rfl rfl) (fun hc => B0 0 rfl (A9 rfl hc) rfl C6 rfl) ?_
   refine J7 rfl rfl (E6 rfl rfl rfl) (fun hc => D7 rfl Tryz.call122 rfl (o1 _) (A6 (A9 rfl hc) C0)) ?_
   refine D3 rfl (fun hc => J5 rfl (A9 rfl hc) (T1 rfl hc)) ?_
   refine D3 rfl (fun hc => B8 rfl (A9 rfl hc)) ?_
   refine J7 rfl rfl (R6 rfl rfl rfl) (fun hc => B1 6 rfl B7 rfl N2 (A0 rfl) rfl) ?_
   refine J7 rfl rfl (R6 rfl rfl rfl) (fun hc => B0 0 rfl (A9 rfl hc) rfl O5 rfl) ?_
   refine J7 rfl rfl (R6 rfl rfl rfl) (fun hc => M2 rfl (A9 rfl hc)) ?_
   refine J7 rfl rfl (R6 rfl rfl rfl) (fun hc => B8 rfl (A9 rfl hc)) ?_
   refine J7 rfl rfl (E6 rfl rfl rfl) (fun hc => B1 2 rfl B7 rfl B5 (A0 rfl) rfl) ?_
   refine J7 rfl rfl (E6 rfl rfl rfl) (fun hc => B0 0 rfl (A9 rfl hc) rfl C6 rfl) ?_
   refine J7 rfl rfl (E6 rfl rfl rfl) (fun hc => O1 rfl (A9 rfl hc) B4) ?_
   refine J7 rfl rfl (R6 rfl rfl rfl) (fun hc => J5 rfl (A9 rfl hc) (T1 rfl hc)) ?_
   refine D3 rfl (fun hc => Q8 rfl (A9 rfl hc) (T1 rfl hc)) ?_
   refine A1 rfl (J5 rfl (A0 rfl) (F7 rfl)) ?_
   refine B3 rfl ?_
   refine A4 ?_
   refine C2 ?_
   exact I3 rfl (C1 rfl (by first | (exfalso; omega) | exact congrArg AV.bool (by unfold goodRec good1 good2 good4 bareR; simp [*])))
  intro h73
  have k73 := M6 h73; try simp only [A8] at k73
  refine A3 (A2 ?_)
  refine A1 rfl (O1 rfl (A0 rfl) B4) ?_
  refine B3 rfl ?_
  refine A4 ?_
  refine B9 (A0 rfl) ?_ ?_
  ·intro h101
   have k101 := M7 h101; try simp only [A8] at k101
   refine A3 (A2 ?_)
   refine A5 rfl ?_
   refine A5 rfl ?_
   refine D3 rfl (fun hc => B1 1 rfl B7 rfl B5 (A0 rfl) rfl) ?_
   refine D3 rfl (fun hc => B0 0 rfl (A9 rfl hc) rfl C6 rfl) ?_
   refine D3 rfl (fun hc => O1 rfl (A9 rfl hc) B4) ?_
   refine A1 rfl (J5 rfl (A0 rfl) (F7 rfl)) ?_
   refine A5 rfl ?_
   refine D3 rfl (fun hc => B1 2 rfl B7 rfl B5 (A0 rfl) rfl) ?_
   refine D3 rfl (fun hc => B0 0 rfl (A9 rfl hc) rfl C6 rfl) ?_
   refine D3 rfl (fun hc => D7 rfl Tryz.call122 rfl (o1 _) (A6 (A9 rfl hc) C0)) ?_
   refine A1 rfl (J5 rfl (A0 rfl) (F7 rfl)) ?_
   refine A5 rfl ?_
   refine D3 rfl (fun hc => B1 6 rfl B7 rfl N2 (A0 rfl) rfl) ?_
   refine D3 rfl (fun hc => B0 0 rfl (A9 rfl hc) rfl O5 rfl) ?_
   refine D3 rfl (fun hc => M2 rfl (A9 rfl hc)) ?_
   refine A1 rfl (J5 rfl (A0 rfl) (F7 rfl)) ?_
   refine B3 rfl ?_
   refine A4 ?_
   refine C2 ?_
   exact I3 rfl (C1 rfl (by first | (exfalso; omega) | exact congrArg AV.bool (by unfold goodRec good1 good2 good4 bareR; simp [*])))
  intro h101
  have k101 := M6 h101; try simp only [A8] at k101
  refine C3 (A3 (A2 ?_))
  refine A1 rfl (B6 rfl E9) ?_
  refine A4 ?_
  refine C2 ?_
  exact I3 rfl (C1 rfl (by first | (exfalso; omega) | exact congrArg AV.bool (by unfold goodRec good1 good2 good4 bareR; simp [*])))
 intro h73
 have k73 := M6 h73; try simp only [A8] at k73
 refine A2 ?_
 refine A1 rfl (O1 rfl (A0 rfl) B4) ?_
 refine B3 rfl ?_
 refine A4 ?_
 refine B9 (A0 rfl) ?_ ?_
 ·intro h73
  have k73 := M7 h73; try simp only [A8] at k73
  refine A3 (A2 ?_)
  refine A5 rfl ?_
  refine A5 rfl ?_
  refine D3 rfl (fun hc => B1 1 rfl B7 rfl B5 (A0 rfl) rfl) ?_
  refine D3 rfl (fun hc => B0 0 rfl (A9 rfl hc) rfl C6 rfl) ?_
  refine D3 rfl (fun hc => D7 rfl Tryz.call69 rfl (r6 _) (A6 (A9 rfl hc) C0)) ?_
  refine A1 rfl (J5 rfl (A0 rfl) (F7 rfl)) ?_
  refine A5 rfl ?_
  refine D3 rfl (fun hc => B1 6 rfl B7 rfl N2 (A0 rfl) rfl) ?_
  refine D3 rfl (fun hc => B0 0 rfl (A9 rfl hc) rfl O5 rfl) ?_
  refine D3 rfl (fun hc => B8 rfl (A9 rfl hc)) ?_
  refine J7 rfl rfl (E6 rfl rfl rfl) (fun hc => B1 2 rfl B7 rfl B5 (A0 rfl) rfl) ?_
  refine J7 rfl rfl (E6 rfl rfl rfl) (fun hc => B0 0 rfl (A9 rfl hc) rfl C6 rfl) ?_
  refine J7 rfl rfl (E6 rfl rfl rfl) (fun hc => D7 rfl Tryz.call122 rfl (o1 _) (A6 (A9 rfl hc) C0)) ?_
  refine D3 rfl (fun hc => J5 rfl (A9 rfl hc) (T1 rfl hc)) ?_
  refine D3 rfl (fun hc => B8 rfl (A9 rfl hc)) ?_
  refine J7 rfl rfl (R6 rfl rfl rfl) (fun hc => B1 6 rfl B7 rfl N2 (A0 rfl) rfl) ?_
  refine J7 rfl rfl (R6 rfl rfl rfl) (fun hc => B0 0 rfl (A9 rfl hc) rfl O5 rfl) ?_
  refine J7 rfl rfl (R6 rfl rfl rfl) (fun hc => M2 rfl (A9 rfl hc)) ?_
  refine J7 rfl rfl (R6 rfl rfl rfl) (fun hc => B8 rfl (A9 rfl hc)) ?_
  refine J7 rfl rfl (E6 rfl rfl rfl) (fun hc => B1 2 rfl B7 rfl B5 (A0 rfl) rfl) ?_
  refine J7 rfl rfl (E6 rfl rfl rfl) (fun hc => B0 0 rfl (A9 rfl hc) rfl C6 rfl) ?_
  refine J7 rfl rfl (E6 rfl rfl rfl) (fun hc => O1 rfl (A9 rfl hc) B4) ?_
  refine J7 rfl rfl (R6 rfl rfl rfl) (fun hc => J5 rfl (A9 rfl hc) (T1 rfl hc)) ?_
  refine D3 rfl (fun hc => Q8 rfl (A9 rfl hc) (T1 rfl hc)) ?_
  refine A1 rfl (J5 rfl (A0 rfl) (F7 rfl)) ?_
  refine B3 rfl ?_
  refine A4 ?_
  refine C2 ?_
  exact I3 rfl (C1 rfl (by first | (exfalso; omega) | exact congrArg AV.bool (by unfold goodRec good1 good2 good4 bareR; simp [*])))
 intro h73
 have k73 := M6 h73; try simp only [A8] at k73
 refine A3 (A2 ?_)
 refine A1 rfl (O1 rfl (A0 rfl) B4) ?_
 refine B3 rfl ?_
 refine A4 ?_
 refine B9 (A0 rfl) ?_ ?_
 ·intro h101
  have k101 := M7 h101; try simp only [A8] at k101
  refine A3 (A2 ?_)
  refine A5 rfl ?_
  refine A5 rfl ?_
  refine D3 rfl (fun hc => B1 1 rfl B7 rfl B5 (A0 rfl) rfl) ?_
  refine D3 rfl (fun hc => B0 0 rfl (A9 rfl hc) rfl C6 rfl) ?_
  refine D3 rfl (fun hc => O1 rfl (A9 rfl hc) B4) ?_
  refine A1 rfl (J5 rfl (A0 rfl) (F7 rfl)) ?_
  refine A5 rfl ?_
  refine D3 rfl (fun hc => B1 2 rfl B7 rfl B5 (A0 rfl) rfl) ?_
  refine D3 rfl (fun hc => B0 0 rfl (A9 rfl hc) rfl C6 rfl) ?_
  refine D3 rfl (fun hc => D7 rfl Tryz.call122 rfl (o1 _) (A6 (A9 rfl hc) C0)) ?_
  refine A1 rfl (J5 rfl (A0 rfl) (F7 rfl)) ?_
  refine A5 rfl ?_
  refine D3 rfl (fun hc => B1 6 rfl B7 rfl N2 (A0 rfl) rfl) ?_
  refine D3 rfl (fun hc => B0 0 rfl (A9 rfl hc) rfl O5 rfl) ?_
  refine D3 rfl (fun hc => M2 rfl (A9 rfl hc)) ?_
  refine A1 rfl (J5 rfl (A0 rfl) (F7 rfl)) ?_
  refine B3 rfl ?_
  refine A4 ?_
  refine C2 ?_
  exact I3 rfl (C1 rfl (by first | (exfalso; omega) | exact congrArg AV.bool (by unfold goodRec good1 good2 good4 bareR; simp [*])))
 intro h101
 have k101 := M6 h101; try simp only [A8] at k101
 refine C3 (A3 (A2 ?_))
 refine A1 rfl (B6 rfl E9) ?_
 refine A4 ?_
 refine C2 ?_
 exact I3 rfl (C1 rfl (by first | (exfalso; omega) | exact congrArg AV.bool (by unfold goodRec good1 good2 good4 bareR; simp [*])))
theorem Az7 (l : List Str) (hs : ∀ k ∈ l, k.length ≤ 4611686018427387904) : FSpec Tryz.prog 105 [strs l] (AV.bool (l4Keys l)) := by
 refine E2 Tryz.func105 rfl Tryz.ntmps105 rfl ?_
 refine U5 (t := 0) rfl fun hl => ?_
 try simp only [A8] at hl
 refine A3 (A2 ?_)
 refine A1 rfl (B6 rfl E9) ?_
 refine A4 (A3 (A3 (A2 ?_)))
 refine A5 rfl ?_
 refine A1 rfl (F6 rfl C9 (A0 rfl)) ?_
 refine A1 rfl (B8 rfl B4) ?_
 refine A4 (C7 ?_)
 refine J0 [(0, _), (5, _), (6, _)] _ (fun (i : Nat) => i ≤ l.length ∧ (l.all l3Key && adj Op.bytesLess l) = ((l.drop i).all l3Key && adj Op.bytesLess (l.drop (i - 1)))) (fun (i : Nat) => []) (fun (i : Nat) => [(7, AV.int i)]) (fun (i : Nat) => l.length - i) (0) ?_ (K2 ⟨rfl, rfl, rfl, rfl, trivial⟩) ?_
 ·exact ⟨Nat.zero_le _, rfl⟩
 intro i hinv
 refine A3 (A2 ?_)
 refine A1 rfl (J8 rfl (A0 rfl) (A0 rfl)) ?_
 refine A4 (A3 ?_)
 refine B9 (A0 rfl) ?_ ?_
 ·intro h8
  have k8 := of_decide_eq_true h8; try simp only [A8] at k8
  have hlt : i < l.length := by omega
  obtain ⟨x, hx⟩ := get_some hlt
  obtain ⟨y, hy⟩ := get_some (show i - 1 < l.length by omega)
  have hsx := hs x (F9 hx)
  refine C3 (A3 (C7 (A3 (A2 ?_))))
  refine A5 rfl ?_
  refine A1 rfl (n4 rfl C9 E3 (A0 rfl) (A0 rfl) (by omega) (by simp only [Int.toNat_natCast, List.getElem?_map, hx, Option.map_some]; try rfl)) ?_
  refine A1 rfl (L6 rfl (A0 rfl) G3 rfl) ?_
  refine B3 rfl ?_
  refine B3 rfl ?_
  refine A4 (A3 (A2 ?_))
  refine A5 rfl ?_
  refine A1 rfl (D7 rfl Tryz.call30 rfl (w3 _ (by omega)) (A6 (A0 rfl) C0)) ?_
  refine A1 rfl (M2 rfl (A0 rfl)) ?_
  refine A5 rfl ?_
  refine F3 rfl (fun hc => B8 rfl (A0 rfl)) ?_
  refine F3 rfl (fun hc => R8 rfl (A9 rfl hc) B4) ?_
  refine F3 rfl (fun hc => B8 rfl (A9 rfl hc)) ?_
  refine J7 rfl rfl (E6 rfl rfl rfl) (fun hc => B8 rfl (A0 rfl)) ?_
  refine J7 rfl rfl (E6 rfl rfl rfl) (fun hc => B8 rfl (A0 rfl)) ?_
  refine J7 rfl rfl (E6 rfl rfl rfl) (fun hc => R7 rfl (A9 rfl hc) B4 (by first | omega | ((try simp only [C8, A7, szR] at *); omega) | (have hc2 := hc; simp only [Q0, beq_iff_eq, bne_iff_ne, A8, D9] at hc2; omega))) ?_
  refine J7 rfl rfl (E6 rfl rfl rfl) (fun hc => n4 rfl C9 E3 (A9 rfl hc) (A9 rfl hc) (by have := of_decide_eq_true (Ar2 hc); omega) (by have := of_decide_eq_true (Ar2 hc); rw [show ((i : Int) - 1).toNat = i - 1 by omega]; simp only [List.getElem?_map, hy, Option.map_some]; try rfl)) ?_
  refine J7 rfl rfl (E6 rfl rfl rfl) (fun hc => L6 rfl (A9 rfl hc) G3 rfl) ?_
  refine J7 rfl rfl (E6 rfl rfl rfl) (fun hc => B8 rfl (A0 rfl)) ?_
  refine J7 rfl rfl (E6 rfl rfl rfl) (fun hc => Ad1 rfl (A9 rfl hc) (A9 rfl hc)) ?_
  refine F3 rfl (fun hc => J5 rfl (A9 rfl hc) (T1 rfl hc)) ?_
  refine A1 rfl (Q8 rfl (A0 rfl) (F7 rfl)) ?_
  refine A4 ?_
  refine B9 (A0 rfl) ?_ ?_
  ·intro h27
   have hfin : (l.all l3Key && adj Op.bytesLess l) = false := by rw [hinv.2, drop_some hx, List.all_cons]; cases hg : l3Key x with | false => simp | true => (simp only [hg, Bool.not_true, Bool.false_or, Bool.and_eq_true, decide_eq_true_eq, Bool.not_eq_true'] at h27; rw [s7 hx hy (by omega) h27.2]; simp)
   refine A3 (A2 ?_)
   refine A1 rfl (B6 rfl E9) ?_
   refine A4 ?_
   refine C2 ?_
   exact I3 rfl (C1 rfl (by first | exact congrArg AV.bool (by unfold l4Keys; rw [hfin]; rfl) | exact congrArg AV.bool (by unfold l4Keys; rw [hinv.2, f7 hge, List.drop_eq_nil_of_le hge]; simp)))
  intro h27
  refine C3 (A2 ?_)
  refine A1 rfl (G0 rfl (A0 rfl) B4 (by first | omega | (simp only [C8, A7, szR] at *; omega))) ?_
  refine A5 rfl ?_
  refine A4 ?_
  refine K4 i (i + 1) ?_ ?_ (K2 ⟨rfl, rfl, rfl, rfl, trivial⟩)
  ·exact ⟨by omega, by rw [hinv.2, drop_some hx, List.all_cons, s6 hx hy (fun h0 => by simp_all), show l3Key x = true by simp_all, Bool.true_and]⟩
  omega
 intro h8
 have k8 := of_decide_eq_false h8; try simp only [A8] at k8
 have hge : l.length ≤ i := by omega
 refine G1 ?_
 refine A3 (A2 ?_)
 refine A5 rfl ?_
 refine A1 rfl (F6 rfl C9 (A0 rfl)) ?_
 refine A1 rfl (X2 rfl (A0 rfl) B4) ?_
 refine B3 rfl ?_
 refine A4 ?_
 refine C2 ?_
 exact I3 rfl (C1 rfl (by first | exact congrArg AV.bool (by unfold l4Keys; rw [hfin]; rfl) | exact congrArg AV.bool (by unfold l4Keys; rw [hinv.2, f7 hge, List.drop_eq_nil_of_le hge]; simp)))
theorem AI8 (r : TRec) (hs : r.size ≤ 1048576) : FSpec Tryz.prog 73 [AV.agg r.cs] (AV.bool (l4Good r)) := by
 obtain ⟨hr1, hr2, hr3, hr4⟩ := AT9 hs
 refine E2 Tryz.func73 rfl Tryz.ntmps73 rfl ?_
 refine A3 (A2 ?_)
 refine N1 rfl rfl rfl rfl (A0 rfl) ?_
 intro b1
 refine A1 rfl (B6 rfl E9) ?_
 refine A4 (A3 (A3 (A2 ?_)))
 refine A1 rfl (B1 0 rfl B7 rfl B5 (A0 rfl) rfl) ?_
 refine A1 rfl (B0 0 rfl (A0 rfl) rfl C6 rfl) ?_
 refine A1 rfl (Z7 rfl (A0 rfl) B4) ?_
 refine A5 rfl ?_
 refine D3 rfl (fun hc => B1 3 rfl B7 rfl B5 (A0 rfl) rfl) ?_
 refine D3 rfl (fun hc => B0 0 rfl (A9 rfl hc) rfl C6 rfl) ?_
 refine D3 rfl (fun hc => Z7 rfl (A9 rfl hc) B4) ?_
 refine D3 rfl (fun hc => B8 rfl (A9 rfl hc)) ?_
 refine J7 rfl rfl (R6 rfl rfl rfl) (fun hc => B1 4 rfl B7 rfl H5 (A0 rfl) rfl) ?_
 refine J7 rfl rfl (R6 rfl rfl rfl) (fun hc => B0 0 rfl (A9 rfl hc) rfl K7 rfl) ?_
 refine J7 rfl rfl (R6 rfl rfl rfl) (fun hc => F6 rfl C9 (A9 rfl hc)) ?_
 refine J7 rfl rfl (R6 rfl rfl rfl) (fun hc => B1 5 rfl B7 rfl L0 (A0 rfl) rfl) ?_
 refine J7 rfl rfl (R6 rfl rfl rfl) (fun hc => B0 0 rfl (A9 rfl hc) rfl M3 rfl) ?_
 refine J7 rfl rfl (R6 rfl rfl rfl) (fun hc => F6 rfl D1 (A9 rfl hc)) ?_
 refine J7 rfl rfl (R6 rfl rfl rfl) (fun hc => G0 rfl (A9 rfl hc) (A9 rfl hc) (by first | omega | ((try simp only [C8, A7, szR] at *); omega) | (have hc2 := hc; simp only [Q0, beq_iff_eq, bne_iff_ne, A8, D9] at hc2; omega))) ?_
 refine J7 rfl rfl (R6 rfl rfl rfl) (fun hc => R8 rfl (A9 rfl hc) B4) ?_
 refine D3 rfl (fun hc => Q8 rfl (A9 rfl hc) (T1 rfl hc)) ?_
 refine A1 rfl (J5 rfl (A0 rfl) (F7 rfl)) ?_
 refine A4 ?_
 refine B9 (A0 rfl) ?_ ?_
 ·intro h20
  have ho : oddR r = true := by (unfold oddR; simpa using h20)
  refine A3 (A2 ?_)
  refine A1 rfl (B6 rfl E9) ?_
  refine A4 ?_
  refine C2 ?_
  exact I3 rfl (C1 rfl (by first | (exfalso; omega) | exact congrArg AV.bool (by unfold l4Good; rw [ho]; first | rfl | (unfold l4G1 l4G2 l4G4; simp [*]))))
 intro h20
 have ho : oddR r = false := by (unfold oddR; simpa using h20)
 refine C3 (A3 (A3 (A2 ?_)))
 refine A1 rfl (B1 0 rfl B7 rfl B5 (A0 rfl) rfl) ?_
 refine A1 rfl (B0 0 rfl (A0 rfl) rfl C6 rfl) ?_
 refine A4 (C7 (A3 (A2 ?_)))
 refine A1 rfl (O1 rfl (A0 rfl) B4) ?_
 refine B3 rfl ?_
 refine A4 ?_
 refine B9 (A0 rfl) ?_ ?_
 ·intro h23
  have k23 := M7 h23; try simp only [A8] at k23
  refine A3 (A2 ?_)
  refine A1 rfl (B1 1 rfl B7 rfl B5 (A0 rfl) rfl) ?_
  refine A1 rfl (B0 0 rfl (A0 rfl) rfl C6 rfl) ?_
  refine A1 rfl (D7 rfl Tryz.call63 rfl (f0 _ _ _) (A6 (A0 rfl) (A6 B4 (A6 B4 C0)))) ?_
  refine A5 rfl ?_
  refine D3 rfl (fun hc => B1 2 rfl B7 rfl B5 (A0 rfl) rfl) ?_
  refine D3 rfl (fun hc => B0 0 rfl (A9 rfl hc) rfl C6 rfl) ?_
  refine D3 rfl (fun hc => D7 rfl Tryz.call104 rfl (o3 _) (A6 (A9 rfl hc) C0)) ?_
  refine A1 rfl (J5 rfl (A0 rfl) (F7 rfl)) ?_
  refine A5 rfl ?_
  refine D3 rfl (fun hc => B1 3 rfl B7 rfl B5 (A0 rfl) rfl) ?_
  refine D3 rfl (fun hc => B0 0 rfl (A9 rfl hc) rfl C6 rfl) ?_
  refine D3 rfl (fun hc => D7 rfl Tryz.call63 rfl (f0 _ _ _) (A6 (A9 rfl hc) (A6 B4 (A6 B4 C0)))) ?_
  refine A1 rfl (J5 rfl (A0 rfl) (F7 rfl)) ?_
  refine A5 rfl ?_
  refine D3 rfl (fun hc => B1 4 rfl B7 rfl H5 (A0 rfl) rfl) ?_
  refine D3 rfl (fun hc => B0 0 rfl (A9 rfl hc) rfl K7 rfl) ?_
  refine D3 rfl (fun hc => D7 rfl Tryz.call105 rfl (Az7 r.Reads hr1) (A6 (A9 rfl hc) C0)) ?_
  refine A1 rfl (J5 rfl (A0 rfl) (F7 rfl)) ?_
  refine A5 rfl ?_
  refine D3 rfl (fun hc => B1 5 rfl B7 rfl L0 (A0 rfl) rfl) ?_
  refine D3 rfl (fun hc => B0 0 rfl (A9 rfl hc) rfl M3 rfl) ?_
  refine D3 rfl (fun hc => D7 rfl Tryz.call46 rfl (AQ0 r.Writes (by omega)) (A6 (A9 rfl hc) C0)) ?_
  refine A1 rfl (J5 rfl (A0 rfl) (F7 rfl)) ?_
  refine A5 rfl ?_
  refine D3 rfl (fun hc => B1 5 rfl B7 rfl L0 (A0 rfl) rfl) ?_
  refine D3 rfl (fun hc => B0 0 rfl (A9 rfl hc) rfl M3 rfl) ?_
  refine D3 rfl (fun hc => F6 rfl D1 (A9 rfl hc)) ?_
  refine D3 rfl (fun hc => D7 rfl Tryz.call63 rfl (f0 _ _ _) (A6 (A9 rfl hc) (A6 B4 (A6 B4 C0)))) ?_
  refine A1 rfl (J5 rfl (A0 rfl) (F7 rfl)) ?_
  refine A5 rfl ?_
  refine D3 rfl (fun hc => B1 4 rfl B7 rfl H5 (A0 rfl) rfl) ?_
  refine D3 rfl (fun hc => B0 0 rfl (A9 rfl hc) rfl K7 rfl) ?_
  refine D3 rfl (fun hc => F6 rfl C9 (A9 rfl hc)) ?_
  refine D3 rfl (fun hc => B1 5 rfl B7 rfl L0 (A0 rfl) rfl) ?_
  refine D3 rfl (fun hc => B0 0 rfl (A9 rfl hc) rfl M3 rfl) ?_
  refine D3 rfl (fun hc => F6 rfl D1 (A9 rfl hc)) ?_
  refine D3 rfl (fun hc => G0 rfl (A9 rfl hc) (A9 rfl hc) (by first | omega | ((try simp only [C8, A7, szR] at *); omega) | (have hc2 := hc; simp only [Q0, beq_iff_eq, bne_iff_ne, A8, D9] at hc2; omega))) ?_
  refine D3 rfl (fun hc => R8 rfl (A9 rfl hc) B4) ?_
  refine A1 rfl (J5 rfl (A0 rfl) (F7 rfl)) ?_
  refine A5 rfl ?_
  refine D3 rfl (fun hc => B1 6 rfl B7 rfl N2 (A0 rfl) rfl) ?_
  refine D3 rfl (fun hc => B0 0 rfl (A9 rfl hc) rfl O5 rfl) ?_
  refine D3 rfl (fun hc => M2 rfl (A9 rfl hc)) ?_
  refine A1 rfl (J5 rfl (A0 rfl) (F7 rfl)) ?_
  refine B3 rfl ?_
  refine A4 ?_
  refine C2 ?_
  exact I3 rfl (C1 rfl (by first | (exfalso; omega) | exact congrArg AV.bool (by unfold l4Good; rw [ho]; first | rfl | (unfold l4G1 l4G2 l4G4; simp [*]))))
 intro h23
 have k23 := M6 h23; try simp only [A8] at k23
 refine A3 (A3 (A2 ?_))
 refine A1 rfl (O1 rfl (A0 rfl) B4) ?_
 refine B3 rfl ?_
 refine A4 ?_
 refine B9 (A0 rfl) ?_ ?_
 ·intro h69
  have k69 := M7 h69; try simp only [A8] at k69
  refine C3 ?_
  refine B9 (A0 rfl) ?_ ?_
  ·intro h69
   have k69 := M7 h69; try simp only [A8] at k69
   refine A3 (A2 ?_)
   refine A1 rfl (B1 1 rfl B7 rfl B5 (A0 rfl) rfl) ?_
   refine A1 rfl (B0 0 rfl (A0 rfl) rfl C6 rfl) ?_
   refine A1 rfl (D7 rfl Tryz.call63 rfl (f0 _ _ _) (A6 (A0 rfl) (A6 B4 (A6 B4 C0)))) ?_
   refine A5 rfl ?_
   refine D3 rfl (fun hc => B1 6 rfl B7 rfl N2 (A0 rfl) rfl) ?_
   refine D3 rfl (fun hc => B0 0 rfl (A9 rfl hc) rfl O5 rfl) ?_
   refine D3 rfl (fun hc => B8 rfl (A9 rfl hc)) ?_
   refine J7 rfl rfl (E6 rfl rfl rfl) (fun hc => B1 2 rfl B7 rfl B5 (A0 rfl) rfl) ?_
   refine J7 rfl rfl (E6 rfl rfl rfl) (fun hc => B0 0 rfl (A9 rfl hc) rfl C6 rfl) ?_
   refine J7 rfl rfl (E6 rfl rfl rfl) (fun hc => D7 rfl Tryz.call104 rfl (o3 _) (A6 (A9 rfl hc) C0)) ?_
   refine D3 rfl (fun hc => J5 rfl (A9 rfl hc) (T1 rfl hc)) ?_
   refine D3 rfl (fun hc => B8 rfl (A9 rfl hc)) ?_
   refine J7 rfl rfl (R6 rfl rfl rfl) (fun hc => B1 6 rfl B7 rfl N2 (A0 rfl) rfl) ?_
   refine J7 rfl rfl (R6 rfl rfl rfl) (fun hc => B0 0 rfl (A9 rfl hc) rfl O5 rfl) ?_
   refine J7 rfl rfl (R6 rfl rfl rfl) (fun hc => M2 rfl (A9 rfl hc)) ?_
   refine J7 rfl rfl (R6 rfl rfl rfl) (fun hc => B8 rfl (A9 rfl hc)) ?_
   refine J7 rfl rfl (E6 rfl rfl rfl) (fun hc => B1 2 rfl B7 rfl B5 (A0 rfl) rfl) ?_
   refine J7 rfl rfl (E6 rfl rfl rfl) (fun hc => B0 0 rfl (A9 rfl hc) rfl C6 rfl) ?_
   refine J7 rfl rfl (E6 rfl rfl rfl) (fun hc => O1 rfl (A9 rfl hc) B4) ?_
   refine J7 rfl rfl (R6 rfl rfl rfl) (fun hc => J5 rfl (A9 rfl hc) (T1 rfl hc)) ?_
   refine D3 rfl (fun hc => Q8 rfl (A9 rfl hc) (T1 rfl hc)) ?_
   refine A1 rfl (J5 rfl (A0 rfl) (F7 rfl)) ?_
   refine B3 rfl ?_
   refine A4 ?_
   refine C2 ?_
   exact I3 rfl (C1 rfl (by first | (exfalso; omega) | exact congrArg AV.bool (by unfold l4Good; rw [ho]; first | rfl | (unfold l4G1 l4G2 l4G4; simp [*]))))
  intro h69
  have k69 := M6 h69; try simp only [A8] at k69
  refine C3 (A3 (A2 ?_))
  refine A1 rfl (B1 0 rfl B7 rfl B5 (A0 rfl) rfl) ?_
  refine A1 rfl (B0 0 rfl (A0 rfl) rfl C6 rfl) ?_
  refine A1 rfl (O1 rfl (A0 rfl) B4) ?_
  refine A5 rfl ?_
  refine D3 rfl (fun hc => B1 1 rfl B7 rfl B5 (A0 rfl) rfl) ?_
  refine D3 rfl (fun hc => B0 0 rfl (A9 rfl hc) rfl C6 rfl) ?_
  refine D3 rfl (fun hc => O1 rfl (A9 rfl hc) B4) ?_
  refine A1 rfl (J5 rfl (A0 rfl) (F7 rfl)) ?_
  refine A5 rfl ?_
  refine D3 rfl (fun hc => B1 2 rfl B7 rfl B5 (A0 rfl) rfl) ?_
  refine D3 rfl (fun hc => B0 0 rfl (A9 rfl hc) rfl C6 rfl) ?_
  refine D3 rfl (fun hc => D7 rfl Tryz.call104 rfl (o3 _) (A6 (A9 rfl hc) C0)) ?_
  refine A1 rfl (J5 rfl (A0 rfl) (F7 rfl)) ?_
  refine A5 rfl ?_
  refine D3 rfl (fun hc => B1 6 rfl B7 rfl N2 (A0 rfl) rfl) ?_
  refine D3 rfl (fun hc => B0 0 rfl (A9 rfl hc) rfl O5 rfl) ?_
  refine D3 rfl (fun hc => M2 rfl (A9 rfl hc)) ?_
  refine A1 rfl (J5 rfl (A0 rfl) (F7 rfl)) ?_
  refine B3 rfl ?_
  refine A4 ?_
  refine C2 ?_
  exact I3 rfl (C1 rfl (by first | (exfalso; omega) | exact congrArg AV.bool (by unfold l4Good; rw [ho]; first | rfl | (unfold l4G1 l4G2 l4G4; simp [*]))))
 intro h69
 have k69 := M6 h69; try simp only [A8] at k69
 refine A2 ?_
 refine A1 rfl (O1 rfl (A0 rfl) B4) ?_
 refine B3 rfl ?_
 refine A4 ?_
 refine B9 (A0 rfl) ?_ ?_
 ·intro h69
  have k69 := M7 h69; try simp only [A8] at k69
  refine A3 (A2 ?_)
  refine A1 rfl (B1 1 rfl B7 rfl B5 (A0 rfl) rfl) ?_
  refine A1 rfl (B0 0 rfl (A0 rfl) rfl C6 rfl) ?_
  refine A1 rfl (D7 rfl Tryz.call63 rfl (f0 _ _ _) (A6 (A0 rfl) (A6 B4 (A6 B4 C0)))) ?_
  refine A5 rfl ?_
  refine D3 rfl (fun hc => B1 6 rfl B7 rfl N2 (A0 rfl) rfl) ?_
  refine D3 rfl (fun hc => B0 0 rfl (A9 rfl hc) rfl O5 rfl) ?_
  refine D3 rfl (fun hc => B8 rfl (A9 rfl hc)) ?_
  refine J7 rfl rfl (E6 rfl rfl rfl) (fun hc => B1 2 rfl B7 rfl B5 (A0 rfl) rfl) ?_
  refine J7 rfl rfl (E6 rfl rfl rfl) (fun hc => B0 0 rfl (A9 rfl hc) rfl C6 rfl) ?_
  refine J7 rfl rfl (E6 rfl rfl rfl) (fun hc => D7 rfl Tryz.call104 rfl (o3 _) (A6 (A9 rfl hc) C0)) ?_
  refine D3 rfl (fun hc => J5 rfl (A9 rfl hc) (T1 rfl hc)) ?_
  refine D3 rfl (fun hc => B8 rfl (A9 rfl hc)) ?_
  refine J7 rfl rfl (R6 rfl rfl rfl) (fun hc => B1 6 rfl B7 rfl N2 (A0 rfl) rfl) ?_
  refine J7 rfl rfl (R6 rfl rfl rfl) (fun hc => B0 0 rfl (A9 rfl hc) rfl O5 rfl) ?_
  refine J7 rfl rfl (R6 rfl rfl rfl) (fun hc => M2 rfl (A9 rfl hc)) ?_
  refine J7 rfl rfl (R6 rfl rfl rfl) (fun hc => B8 rfl (A9 rfl hc)) ?_
  refine J7 rfl rfl (E6 rfl rfl rfl) (fun hc => B1 2 rfl B7 rfl B5 (A0 rfl) rfl) ?_
  refine J7 rfl rfl (E6 rfl rfl rfl) (fun hc => B0 0 rfl (A9 rfl hc) rfl C6 rfl) ?_
  refine J7 rfl rfl (E6 rfl rfl rfl) (fun hc => O1 rfl (A9 rfl hc) B4) ?_
  refine J7 rfl rfl (R6 rfl rfl rfl) (fun hc => J5 rfl (A9 rfl hc) (T1 rfl hc)) ?_
  refine D3 rfl (fun hc => Q8 rfl (A9 rfl hc) (T1 rfl hc)) ?_
  refine A1 rfl (J5 rfl (A0 rfl) (F7 rfl)) ?_
  refine B3 rfl ?_
  refine A4 ?_
  refine C2 ?_
  exact I3 rfl (C1 rfl (by first | (exfalso; omega) | exact congrArg AV.bool (by unfold l4Good; rw [ho]; first | rfl | (unfold l4G1 l4G2 l4G4; simp [*]))))
 intro h69
 have k69 := M6 h69; try simp only [A8] at k69
 refine C3 (A3 (A2 ?_))
 refine A1 rfl (B1 0 rfl B7 rfl B5 (A0 rfl) rfl) ?_
 refine A1 rfl (B0 0 rfl (A0 rfl) rfl C6 rfl) ?_
 refine A1 rfl (O1 rfl (A0 rfl) B4) ?_
 refine A5 rfl ?_
 refine D3 rfl (fun hc => B1 1 rfl B7 rfl B5 (A0 rfl) rfl) ?_
 refine D3 rfl (fun hc => B0 0 rfl (A9 rfl hc) rfl C6 rfl) ?_
 refine D3 rfl (fun hc => O1 rfl (A9 rfl hc) B4) ?_
 refine A1 rfl (J5 rfl (A0 rfl) (F7 rfl)) ?_
 refine A5 rfl ?_
 refine D3 rfl (fun hc => B1 2 rfl B7 rfl B5 (A0 rfl) rfl) ?_
 refine D3 rfl (fun hc => B0 0 rfl (A9 rfl hc) rfl C6 rfl) ?_
 refine D3 rfl (fun hc => D7 rfl Tryz.call104 rfl (o3 _) (A6 (A9 rfl hc) C0)) ?_
 refine A1 rfl (J5 rfl (A0 rfl) (F7 rfl)) ?_
 refine A5 rfl ?_
 refine D3 rfl (fun hc => B1 6 rfl B7 rfl N2 (A0 rfl) rfl) ?_
 refine D3 rfl (fun hc => B0 0 rfl (A9 rfl hc) rfl O5 rfl) ?_
 refine D3 rfl (fun hc => M2 rfl (A9 rfl hc)) ?_
 refine A1 rfl (J5 rfl (A0 rfl) (F7 rfl)) ?_
 refine B3 rfl ?_
 refine A4 ?_
 refine C2 ?_
 exact I3 rfl (C1 rfl (by first | (exfalso; omega) | exact congrArg AV.bool (by unfold l4Good; rw [ho]; first | rfl | (unfold l4G1 l4G2 l4G4; simp [*]))))
end Go.Proofs.YtoaoicnnimjbeaaGreat

namespace Go.AV
section
variable {P : Program} {G : Nat → Prop} {n : Nat} {own : List Own} {o : Oper}
end
end Go.AV

namespace Go.AV
open Go.RowKit (Below)
section
variable {P : Program} {G : Nat → Prop} {n : Nat} {own : List Own} {o : Oper} {E : EnvF}
theorem w_tlen {t e : TypeId} {p : Operand} {v : Value} {sz lo : Nat} {es : List (List AV)} (i : Nat) (ho : o.op = .call { callee := .builtin .len, args := #[p], argTypes := #[t] }) (ht : P.underlying t = some (.slice e)) (hp : Ev E p (AV.is (tailV lo sz v))) (hi : own[i]? = some (.arr v e sz es)) : OpW P G n own o E (AV.int ((es.length - lo : Nat) : Int)) := d5 fun w0 R0 R a w hcore he => by
  have h1 : a.eval p = _ := K1 hp (by simp [ho, Op.operands, Call.operands]) he
  obtain ⟨_, _, xs, hown, _⟩ := hcore.owned _ (F9 hi)
  obtain ⟨oa, c, rfl, _⟩ := AE4 hown
  have hel : P.elem t = e := by simp [Program.elem, ht]
  have h2 := fun (b : Option Addr) => run_len_slice (P := P) w t o.type b (es.length - lo) (c - lo) (by rw [hel]; exact ht)
  exact ⟨.int .i64 (es.length - lo : Nat), by simp only [execOp, ho, resolve, invoke, builtin, List.map_toArray, List.map_cons, List.map_nil, h1, tailV, sliced, h2, Sem.run_bind, Sem.run_pure, Result.andThen_ok, goInt], rfl⟩
theorem AL2 {t e : TypeId} {p q : Operand} {v : Value} {sz lo : Nat} {es : List (List AV)} {k : Int} (i : Nat) (ho : o.op = .indexAddr t p q) (ht : P.underlying t = some (.slice e)) (hsz : ∀ w, (sizeOf e).run P w = .ok sz w) (hp : Ev E p (AV.is (tailV lo sz v))) (hi : own[i]? = some (.arr v e sz es)) (hq : Ev E q (AV.int k)) (h0 : 0 ≤ k) (hk : lo + k < es.length) :
    OpW P G n own o E (AV.is (elemPtr v ((lo + k.toNat) * sz))) := d5 fun w0 R0 R a w hcore he => by
  have h1 : a.eval p = _ := K1 hp (by simp [ho, Op.operands]) he
  have h2 : a.eval q = .int .i64 k := K1 hq (by simp [ho, Op.operands]) he
  obtain ⟨_, _, xs, hown, _⟩ := hcore.owned _ (F9 hi)
  rcases hown.2 with ⟨rfl, hz⟩ | ⟨g, cap, cur, rfl, _, _, hn, _⟩
  · rw [hz] at hk; simp at hk; omega
  · have hel : P.elem t = e := by simp [Program.elem, ht]
    have hne : ¬ cap = lo := by omega
    have hk2 : k < ((es.length - lo : Nat) : Int) := by omega
    have h3 := run_indexAt_slice (P := P) w t ((⟨g, 0, none⟩ : Addr).add (lo * sz)) (es.length - lo) (cap - lo) .i64 k (by rw [hel]; exact ht)
    rw [if_pos ⟨h0, hk2⟩, hel, hsz, Result.andThen_ok] at h3
    have e : (lo + k.toNat) * sz = lo * sz + k.toNat * sz := Nat.add_mul _ _ _
    refine ⟨.pointer (some (Addr.add ((⟨g, 0, none⟩ : Addr).add (lo * sz)) (k.toNat * sz))), by simp only [execOp, ho, h1, h2, tailV, sliced, if_neg hne, Option.map_some, h3, Sem.run_bind, Sem.run_pure, Result.andThen_ok], ?_⟩
    rw [e]
    show Value.pointer _ = Value.pointer (some (Addr.add ⟨g, 0, none⟩ (lo * sz + k.toNat * sz)))
    simp only [g7, Nat.zero_add]
def SrcE (own : List Own) (E : EnvF) (q : Operand) (sz : Nat) (fs : List (List AV)) : Prop :=
  ∀ (G : Nat → Prop) (w0 : World) (R0 R : RHeap) (a : Act) (w : World), Core G w0 R0 own R w → (∀ t, q = .tmp t → ∀ y, E t = some y → y.den R (a.tmps.getD t undef)) →
    (∀ f ∈ fs, f.length = sz) ∧ ∃ oa cap vs, a.eval q = .slice oa fs.length cap ∧ (fs ≠ [] → ∃ ad, oa = some ad ∧ (∀ j u, vs[j]? = some u → w.cell? (ad.add j) = some u) ∧ DenC R vs fs.flatten)
theorem AI9 {ops : Array Oper} {t e : TypeId} {p q : Operand} {sz by' : Nat} {inf : TypeInfo} {z : Value} {v : Value} {es fs : List (List AV)} (i : Nat) (ho : o.op = .call { callee := .builtin .append, args := #[p, q], argTypes := #[t, t] }) (ht : P.underlying t = some (.slice e)) (hinf : P.info? e = some inf) (hz : inf.zero = some z) (hsz : inf.size = sz) (hby : inf.bytes = by') (hzs : z.cells.size = sz) (hpos : Nat.ble 1 sz = true) (hpos2 : Nat.ble 1 by' = true) (hp : Ev E p (AV.is v)) (hq : SrcE own E q sz fs) (hi : own[i]? = some (.arr v e sz es))
    (hlen : (es.length + fs.length) * by' ≤ 140737488355328) : OpE P G n own ops o E (fun _ : Value => True) (fun v' => own.set i (.arr v' e sz (es ++ fs))) (fun v' => AV.is v') :=
  fun w0 R0 R a w h1 h3 h2 => by
    have e1 : a.eval p = v := s5 (ops := ops) hp (by simp [ho, Op.operands, Call.operands]) h2
    obtain ⟨hu, oa, c, ns, e2, hcell⟩ := hq G w0 R0 R a w h1 (fun t ht y hy => h2 t (n3 (by subst ht; exact List.mem_filterMap.2 ⟨.tmp t, by simp [ho, Op.operands, Call.operands], rfl⟩)) y hy)
    obtain ⟨hR, hue, xs, hown, hdc⟩ := h1.owned _ (F9 hi)
    have hb1 := Nat.le_of_ble_eq_true hpos
    have hb2 := Nat.le_of_ble_eq_true hpos2
    have hsum : es.length + fs.length ≤ 140737488355328 := Nat.le_trans (Nat.le_mul_of_pos_right _ hb2) hlen
    have hufs : ∀ x ∈ es ++ fs, x.length = sz := fun x hx => by
      rcases List.mem_append.1 hx with h | h
      · exact hue x h
      · exact hu x h
    by_cases hfs : fs = []
    · subst hfs
      have hrun : ∃ v', (Builtin.append_ #[t, t] o.type #[v, a.eval q]).run P w = .ok v' w ∧ v' = v := by
        refine ⟨v, ?_, rfl⟩
        rw [e2]
        rcases hown.2 with ⟨rfl, hz0⟩ | ⟨g, cap, cur, rfl, _, _, hnc, _⟩
        · cases oa with
          | none => simp [Builtin.append_, run_underlying ht, sizeOf, typeInfo, hinf, Builtin.lenOf, Builtin.firstCells, hz0]
          | some ad => simp [Builtin.append_, run_underlying ht, sizeOf, typeInfo, hinf, Builtin.lenOf, Builtin.firstCells, loadCells, loadCellsFrom, hz0]
        · cases oa with
          | none => simp [Builtin.append_, run_underlying ht, sizeOf, typeInfo, hinf, Builtin.lenOf, Builtin.firstCells, hnc, storeCells]
          | some ad => simp [Builtin.append_, run_underlying ht, sizeOf, typeInfo, hinf, Builtin.lenOf, Builtin.firstCells, loadCells, loadCellsFrom, hnc, storeCells]
      obtain ⟨v', hr, rfl⟩ := hrun
      have hex : (execOp a.eval o).run P w = .ok (.value v') w := by
        simp only [execOp, ho, resolve, invoke, builtin, Sem.run_bind, Sem.run_pure, Result.andThen_ok, List.map_toArray, List.map_cons, List.map_nil, e1, hr]
      unfold Oper.wp
      rw [hex, Oper.upon_value]
      have hset : own.set i (.arr v' e sz (es ++ [])) = own := by
        rw [List.append_nil]
        obtain ⟨hlt, he⟩ := List.getElem?_eq_some_iff.1 hi
        rw [← he]; exact List.set_getElem_self hlt
      exact ⟨v', v', R, trivial, rfl, by show Core G w0 R0 (own.set i (.arr v' e sz (es ++ []))) R w; rw [hset]; exact h1, RSub.refl _, rfl⟩
    · obtain ⟨ad, rfl, hn2, hn3⟩ := hcell hfs
      have hn1 : ns.length = fs.flatten.length := hn3.1
      have hnl : ns.length = fs.length * sz := by rw [hn1, V6 hu]
      have hone : ∀ u ∈ ns, u.oneCell' = true := fun u hm => by
        obtain ⟨j, hj⟩ := List.getElem?_of_mem hm
        have hjl : j < fs.flatten.length := by rw [← hn1]; exact (List.getElem?_eq_some_iff.1 hj).1
        exact (hn3.2 j u _ hj (List.getElem?_eq_getElem hjl)).2
      obtain ⟨v', w', hr, hown', hgr, _, hblk⟩ := run_append_own_at (P := P) w 0 t o.type e inf z sz by' ht hinf hz hsz hby hzs hb1 v es.length xs hown ad fs.length c ns hnl hn2 hone (by unfold maxLen; omega) hlen (Nat.zero_le _)
      have hex : (execOp a.eval o).run P w = .ok (.value v') w' := by
        simp only [execOp, ho, resolve, invoke, builtin, Sem.run_bind, Sem.run_pure, Result.andThen_ok, List.map_toArray, List.map_cons, List.map_nil, e1, e2, hr]
      unfold Oper.wp
      rw [hex, Oper.upon_value]
      refine ⟨v', v', R, trivial, rfl, AB4 h1 hi (fun b hb => ?_) ⟨fun b hb => ?_, hufs, xs ++ ns, ?_, ?_⟩ hgr, RSub.refl _, rfl⟩
      · simp only [Own.blk] at hb ⊢
        rcases hblk with h | h
        · exact .inl (by rw [← h]; exact hb)
        · rw [hb] at h; injection h with h; exact .inr h
      · rcases hblk with h | h
        · exact hR b (by rw [← h]; exact hb)
        · rw [hb] at h; injection h with h; subst h; exact w8 h1.rle
      · rw [J6]; exact hown'
      · rw [List.flatten_append]; exact j3 hdc hn3

theorem lt_tailm {α : Type} {f : α → List AV} {l : List α} {v : Value} {e : TypeId} {sz lo k : Nat} (hm : Own.arr v e sz (l.map f) ∈ own) (hlo : lo = k) (hk : k ≤ l.length) : LendTo own (AV.is (tailV lo sz v)) (AV.list sz ((l.drop k).map f)) := fun G w0 R0 R w u hc hu => by
  subst hlo
  cases (show u = tailV lo sz v from hu)
  obtain ⟨_, _, xs, hown, _⟩ := hc.owned _ hm
  obtain ⟨oa, c, hv, hnc⟩ := AE4 hown
  have h1 := M8 hm I7 G w0 R0 R w v hc rfl
  obtain ⟨oa', c', e1, k1, k2, k3, k4⟩ := h1
  subst e1
  have h9 := AM7 (R := lend own w R) (lo := lo) (hi := (l.map f).length) (es := l.map f) (oa := oa') rfl k1 k2 k3 k4 (by rw [A8]; exact hk) (Nat.le_refl _)
  rw [List.take_length, ← List.map_drop] at h9
  exact h9
end
end Go.AV

namespace Go.AV
open Go.Sort

theorem core_row {R : RHeap} {w w' : World} {v : Value} {g : Nat} {t : TypeId} {sz : Nat} {es es' : List (List AV)} {xs : List Value} (hb : v.ownBlock = some g) (hr : RLe R w) (hR : R g = none) (hg : w.grownBy w' (some g))
    (hown : w'.ownsRow 0 t sz v es'.length xs) (hd : DenC R xs es'.flatten) (hsz : ∀ e ∈ es', e.length = sz) :
    Core (blksOf [.arr v t sz es]) w R [.arr v t sz es'] R w' := by
  refine ⟨hg.os, hg.tape, hg.output, hg.size, fun k hk hG => hg.block k hk fun e => hG ⟨_, List.mem_singleton.2 rfl, ?_⟩, fun b o hbo => ?_, fun _ _ => rfl, fun o ho => ?_, fun o ho b e => ?_, ?_⟩
  · injection e with e; subst e; exact hb
  · have h1 := hr b o hbo
    have hlt : b < w.heap.size := (Array.getElem?_eq_some_iff.1 h1).1
    rw [hg.block b hlt fun e => by injection e with e; subst e; rw [hR] at hbo; cases hbo]; exact h1
  · rw [List.mem_singleton.1 ho]
    exact ⟨fun b e => by rw [hb] at e; injection e with e; subst e; exact hR, hsz, xs, hown, hd⟩
  · rw [List.mem_singleton.1 ho] at e
    exact .inr ⟨_, List.mem_singleton.2 rfl, e⟩
  · simp [Own.blk, hb]
theorem BM4 {R : RHeap} {w : World} {o : Own} (hr : RLe R w) (ho : Own.ok R w o) : Core (blksOf [o]) w R [o] R w :=
  ⟨rfl, rfl, rfl, Nat.le_refl _, fun _ _ _ => rfl, hr, fun _ _ => rfl, fun q hq => by rw [List.mem_singleton.1 hq]; exact ho, fun q hq b e => .inr ⟨q, hq, e⟩, by
    simp only [List.filterMap_cons, List.filterMap_nil]
    cases Own.blk o <;> simp⟩
theorem denC_is {R : RHeap} {vs ys : List Value} (h : DenC R vs (ys.map AV.is)) : vs = ys := by
  refine List.ext_getElem? fun i => ?_
  have hl := h.1
  rw [A8] at hl
  by_cases hi : i < ys.length
  · have h1 : vs[i]? = some vs[i] := List.getElem?_eq_getElem (by omega)
    have h2 : (ys.map AV.is)[i]? = some (AV.is ys[i]) := by rw [List.getElem?_map, List.getElem?_eq_getElem hi]; rfl
    have h3 := (h.2 i _ _ h1 h2).1
    rw [h1, List.getElem?_eq_getElem hi]
    exact congrArg some h3
  · rw [List.getElem?_eq_none (by omega), List.getElem?_eq_none (by omega)]
theorem denC_mk {R : RHeap} {ys : List Value} (h : ∀ y ∈ ys, y.oneCell' = true) : DenC R ys (ys.map AV.is) := by
  refine ⟨by rw [A8], fun i v x hv hx => ?_⟩
  rw [List.getElem?_map, hv] at hx
  injection hx with hx; subst hx
  exact ⟨rfl, h v (F9 hv)⟩
theorem AY7 {α : Type} (c : α → AV) (l : List α) : (l.map fun n => [c n]).flatten = l.map c := by
  induction l with
  | nil => rfl
  | cons x l ih => simp [ih]
section ordered
variable {P : Program} {f : FuncId} {t : TypeId} {α : Type} [Inhabited α]
theorem row_own1 (enc : α → Value) (h1c : ∀ x, (enc x).oneCell' = true) (srt : List α → List α) (hsl : ∀ l, (srt l).length = l.length)
    (h1 : ∀ (blk off cap : Nat) (zs : List α) (w : World), Holds enc w blk off zs.toArray → blk < w.heap.size → zs.length < 4611686018427387904 →
      Calls P f #[.slice (some ⟨blk, off, none⟩) zs.length cap] w fun e w' => e = .returned (.tuple #[]) ∧ ∃ n os, w' = grow (putRow enc (Sort.ahead w n) blk off (srt zs).toArray) os)
    (h0 : ∀ (p : Option Addr) (cap : Nat) (w : World), Calls P f #[.slice p 0 cap] w fun e w' => e = .returned (.tuple #[]) ∧ w' = w)
    (v : Value) (l : List α) (hl : l.length < 4611686018427387904) :
    GSpec P f [AV.is v] [.arr v t 1 (l.map fun n => [AV.is (enc n)])] (fun _ : Unit => True) (fun _ => [.arr v t 1 ((srt l).map fun n => [AV.is (enc n)])]) (fun _ => AV.tup []) := by
  intro R w vs hr hd hok hnd
  have hvs : vs = [v] := by
    obtain ⟨hlen, hval⟩ := hd
    cases vs with
    | nil => simp at hlen
    | cons a r =>
      cases r with
      | nil => have h9 := hval 0 a (AV.is v) rfl rfl; rw [show a = v from h9]
      | cons b r => simp at hlen
  subst hvs
  have ho := hok _ (List.mem_singleton.2 rfl)
  obtain ⟨hR, hsz, xs, hown, hden⟩ := ho
  have hxs : xs = l.map enc := by
    rw [AY7 (fun n => AV.is (enc n))] at hden
    have h9 : l.map (fun n => AV.is (enc n)) = (l.map enc).map AV.is := by simp
    rw [h9] at hden
    exact denC_is hden
  rw [A8] at hown
  rcases hown.2 with ⟨hv, hn⟩ | ⟨g, cap, cur, hv, _, hg, hnc, hcm, hcs, htk⟩
  · have hl0 : l = [] := List.length_eq_zero_iff.1 hn
    subst hv; subst hl0
    have hs0 : srt [] = [] := List.length_eq_zero_iff.1 (hsl [])
    refine (h0 none 0 w).mono ?_
    rintro e w' ⟨rfl, rfl⟩
    refine ⟨(), _, R, trivial, rfl, ⟨[], rfl, DenV.nil _⟩, ?_⟩
    rw [hs0]
    exact BM4 hr (hok _ (List.mem_singleton.2 rfl))
  · subst hv
    have hgl : g < w.heap.size := (Array.getElem?_eq_some_iff.1 hg).1
    rw [Nat.mul_one] at htk hcs
    have hH : Holds enc w g 0 l.toArray := fun j hj => by
      have hj' : j < l.length := by simpa using hj
      have h9 : cur.toList[j]? = some (enc l[j]) := by
        rw [← List.getElem?_take_of_lt hj', htk, hxs, List.getElem?_map, List.getElem?_eq_getElem hj']; rfl
      refine ⟨?_, by simp [World.frozen?, hg]⟩
      simp only [World.cell?, hg, Nat.zero_add]
      simp only [Option.isSome_none, Bool.false_eq_true, if_false]
      rw [← Array.getElem?_toList, h9]
      simp [hj']
    refine (h1 g 0 cap l w hH hgl hl).mono ?_
    rintro e w' ⟨rfl, n, os, rfl⟩
    refine ⟨(), _, R, trivial, rfl, ⟨[], rfl, DenV.nil _⟩, ?_⟩
    have hgb : w.grownBy (grow (putRow enc (Sort.ahead w n) g 0 (srt l).toArray) os) (some g) := by
      refine ⟨rfl, rfl, rfl, by simp, fun k hk hne => ?_⟩
      rw [heap_grow_old _ _ (by simpa using hk)]
      have h9 : g ≠ k := fun e => hne (by rw [e])
      simp [putRow, mapBlock, Sort.ahead, Array.getElem?_modify, h9]
    have hheap : (grow (putRow enc (Sort.ahead w n) g 0 (srt l).toArray) os).heap[g]? = some (.cells (putCells enc 0 (srt l).toArray cur) t (0, 0)) := by
      rw [heap_grow_old _ _ (by simpa using hgl)]
      simp [putRow, mapBlock, Sort.ahead, Array.getElem?_modify, hg, onCells]
    refine core_row (g := g) (xs := (srt l).map enc) rfl hr (hR g rfl) hgb ?_ ?_ ?_
    · rw [A8, hsl]
      refine ⟨by simp [hsl], .inr ⟨g, cap, _, rfl, Nat.zero_le _, hheap, hnc, hcm, by simp [putCells, hcs], ?_⟩⟩
      apply List.ext_getElem?
      intro j
      by_cases hj : j < l.length
      · rw [List.getElem?_take_of_lt (by omega), Array.getElem?_toList]
        have h8 : j < (srt l).length := by rw [hsl]; exact hj
        simp [putCells, h8, show j < cur.size by omega]
      · rw [List.getElem?_take_eq_none (by omega), List.getElem?_eq_none (by simp [hsl]; omega)]
    · rw [AY7 (fun n => AV.is (enc n))]
      have h9 : (srt l).map (fun n => AV.is (enc n)) = ((srt l).map enc).map AV.is := by simp
      rw [h9]
      exact denC_mk fun y hy => by obtain ⟨x, _, rfl⟩ := List.mem_map.1 hy; exact h1c x
    · intro e he; obtain ⟨x, _, rfl⟩ := List.mem_map.1 he; rfl
end ordered
end Go.AV

namespace Go.Proofs
open Go.Shelf
def Tryz.sortStrs_ren : Go.Shelf.Ren := ⟨fun | 190 => 102 | 125 => 143 | 258 => 142 | 128 => 180 | 129 => 181 | 302 => 171 | 303 => 172 | 304 => 173 | 305 => 174 | 306 => 175 | 307 => 176 | 308 => 177 | 309 => 178 | 310 => 179 | 333 => 197 | 329 => 198 | 330 => 199 | 334 => 200 | 335 => 201 | 336 => 191 | 344 => 209 | n => n, fun | 31 => 24 | 9 => 9 | 3 => 3 | 46 => 141 | 0 => 0 | 51 => 206 | 53 => 62 | 4 => 4 | 183 => 200 | 182 => 199 | 131 => 27 | 5 => 5 | 218 => 215 | 222 => 219 | 228 => 228 | 229 => 229 | n => n, fun | n => n⟩
theorem Tryz.sortStrs : Go.Proofs.Lays.n190 Tryz.prog Tryz.sortStrs_ren := {
  mixed := by kernel_rfl
  f125 := Tryz.func143.trans (congrArg some (by kernel_rfl))
  f128 := Tryz.func180.trans (congrArg some (by kernel_rfl))
  f129 := Tryz.func181.trans (congrArg some (by kernel_rfl))
  f190 := Tryz.func102.trans (congrArg some (by kernel_rfl))
  f258 := Tryz.func142.trans (congrArg some (by kernel_rfl))
  f302 := Tryz.func171.trans (congrArg some (by kernel_rfl))
  f303 := Tryz.func172.trans (congrArg some (by kernel_rfl))
  f304 := Tryz.func173.trans (congrArg some (by kernel_rfl))
  f305 := Tryz.func174.trans (congrArg some (by kernel_rfl))
  f306 := Tryz.func175.trans (congrArg some (by kernel_rfl))
  f307 := Tryz.func176.trans (congrArg some (by kernel_rfl))
  f308 := Tryz.func177.trans (congrArg some (by kernel_rfl))
  f309 := Tryz.func178.trans (congrArg some (by kernel_rfl))
  f310 := Tryz.func179.trans (congrArg some (by kernel_rfl))
  f329 := Tryz.func198.trans (congrArg some (by kernel_rfl))
  f330 := Tryz.func199.trans (congrArg some (by kernel_rfl))
  f333 := Tryz.func197.trans (congrArg some (by kernel_rfl))
  f334 := Tryz.func200.trans (congrArg some (by kernel_rfl))
  f335 := Tryz.func201.trans (congrArg some (by kernel_rfl))
  f336 := Tryz.func191.trans (congrArg some (by kernel_rfl))
  f344 := Tryz.func209.trans (congrArg some (by kernel_rfl))
  t0 := Tryz.underlying0
  a0 := Tryz.isAgg0
  z0 := Tryz.sizeOf0
  v0 := Tryz.zeroValue0
  t3 := W6
  a3 := C6
  z3 := B5
  v3 := Tryz.zeroValue3
  t4 := V8
  a4 := O5
  z4 := N2
  v4 := Tryz.zeroValue4
  t5 := Tryz.underlying5
  a5 := Tryz.isAgg5
  z5 := Tryz.sizeOf5
  v5 := Tryz.zeroValue5
  t9 := Q3
  a9 := G3
  z9 := E3
  v9 := Tryz.zeroValue9
  t31 := C9
  a31 := K7
  z31 := H5
  v31 := Tryz.zeroValue24
  t46 := Tryz.underlying141
  a46 := Tryz.isAgg141
  z46 := Tryz.sizeOf141
  v46 := Tryz.zeroValue141
  t51 := Tryz.underlying206
  a51 := Tryz.isAgg206
  z51 := Tryz.sizeOf206
  v51 := Tryz.zeroValue206
  t53 := Tryz.underlying62
  a53 := Tryz.isAgg62
  z53 := a7
  v53 := Tryz.zeroValue62
  t131 := Tryz.underlying27
  a131 := Tryz.isAgg27
  z131 := Tryz.sizeOf27
  v131 := Tryz.zeroValue27
  t182 := Tryz.underlying199
  a182 := Tryz.isAgg199
  z182 := Tryz.sizeOf199
  v182 := Tryz.zeroValue199
  t183 := Tryz.underlying200
  a183 := Tryz.isAgg200
  z183 := Tryz.sizeOf200
  v183 := Tryz.zeroValue200
  t218 := Tryz.underlying215
  a218 := Tryz.isAgg215
  z218 := Tryz.sizeOf215
  v218 := Tryz.zeroValue215
  t222 := Tryz.underlying219
  a222 := Tryz.isAgg219
  z222 := Tryz.sizeOf219
  v222 := Tryz.zeroValue219
  t228 := Tryz.underlying228
  a228 := Tryz.isAgg228
  z228 := Tryz.sizeOf228
  v228 := Tryz.zeroValue228
  t229 := Tryz.underlying229
  a229 := Tryz.isAgg229
  z229 := Tryz.sizeOf229
  v229 := Tryz.zeroValue229 }
end Go.Proofs

namespace Go.Proofs.YtoaoicnnimjbeaaGreat
open Go Go.AV Go.M
attribute [local irreducible] OpW OpA OpS AWP FSpec ESpec GSpec OpE RetOk RetOkG RvDen Le Ev GuardIs SrcIs Int.tmod Int.tdiv IntKind.wrap
theorem Am2 (x y : TWrite) : (x.Key == y.Key && (x.Val == y.Val && (x.Gone == y.Gone && true))) = decide (x = y) := by
  cases x; cases y
  rw [Bool.eq_iff_iff]
  simp
theorem Az8 (a b : List Str) : FSpec Tryz.prog 128 [strs a, strs b] (AV.bool (decide (a = b))) := by
 refine E2 Tryz.func128 rfl Tryz.ntmps128 rfl ?_
 refine U5 (t := 0) rfl fun hl => ?_
 try simp only [A8] at hl
 refine U5 (t := 1) rfl fun hl2 => ?_
 try simp only [A8] at hl2
 refine A3 (A2 ?_)
 refine A1 rfl (B6 rfl E9) ?_
 refine A4 (A3 (A3 (A2 ?_)))
 refine A5 rfl ?_
 refine A1 rfl (F6 rfl C9 (A0 rfl)) ?_
 refine A5 rfl ?_
 refine A1 rfl (F6 rfl C9 (A0 rfl)) ?_
 refine A1 rfl (Z7 rfl (A0 rfl) (A0 rfl)) ?_
 refine A4 ?_
 refine B9 (A0 rfl) ?_ ?_
 ·intro h10
  have k10 := l0 h10; try simp only [A8] at k10
  have hne : decide (a = b) = false := decide_eq_false fun e => by (subst e; omega)
  rw [hne]
  refine A3 (A2 ?_)
  refine A1 rfl (B6 rfl E9) ?_
  refine A4 ?_
  refine C2 ?_
  exact I3 rfl (C1 rfl (by rfl))
 intro h10
 have k10 := X7 h10; try simp only [A8] at k10
 refine C3 (A3 (A3 (A2 ?_)))
 refine A5 rfl ?_
 refine A1 rfl (F6 rfl C9 (A0 rfl)) ?_
 refine A1 rfl (B8 rfl B4) ?_
 refine A4 (C7 ?_)
 refine J0 [(0, _), (1, _), (12, _)] _ (fun (i : Nat) => i ≤ a.length ∧ a.take i = b.take i) (fun (i : Nat) => []) (fun (i : Nat) => [(13, AV.int i)]) (fun (i : Nat) => a.length - i) (0) ?_ (K2 ⟨rfl, rfl, rfl, rfl, trivial⟩) ?_
 ·exact ⟨Nat.zero_le _, rfl⟩
 intro i hinv
 refine A3 (A2 ?_)
 refine A1 rfl (J8 rfl (A0 rfl) (A0 rfl)) ?_
 refine A4 (A3 ?_)
 refine B9 (A0 rfl) ?_ ?_
 ·intro h14
  have k14 := of_decide_eq_true h14; try simp only [A8] at k14
  have hlt : i < a.length := by omega
  obtain ⟨x, hx⟩ := get_some hlt
  obtain ⟨y, hy⟩ := get_some (show i < b.length by omega)
  refine C3 (A3 (C7 (A3 (A2 ?_))))
  refine A5 rfl ?_
  refine B3 rfl ?_
  refine A4 (A3 ?_)
  refine L1 (by kernel_rfl) (by kernel_rfl) rfl ?_
  refine B2 rfl rfl (B8 rfl (A0 rfl)) ?_
  refine B2 rfl rfl (B8 rfl (A0 rfl)) ?_
  refine B2 rfl rfl (I2 rfl C9 E3 (A0 rfl) (A0 rfl) hx (by first | omega | (simp only [C8, A7, szR] at *; omega))) ?_
  refine B2 rfl rfl (L6 rfl (A0 rfl) G3 rfl) ?_
  refine B2 rfl rfl (B8 rfl (A0 rfl)) ?_
  refine B2 rfl rfl (B8 rfl (A0 rfl)) ?_
  refine B2 rfl rfl (I2 rfl C9 E3 (A0 rfl) (A0 rfl) hy (by first | omega | (simp only [C8, A7, szR] at *; omega))) ?_
  refine B2 rfl rfl (L6 rfl (A0 rfl) G3 rfl) ?_
  refine B2 rfl rfl (AJ3 rfl (A0 rfl) (A0 rfl)) ?_
  refine P7 ?_
  refine B9 (A0 rfl) ?_ ?_
  ·intro h24
   have hne : decide (a = b) = false := decide_eq_false fun e => by (subst e; rw [hx] at hy; injection hy with hy; simp [hy] at h24)
   rw [hne]
   refine A3 (A2 ?_)
   refine A1 rfl (B6 rfl E9) ?_
   refine A4 ?_
   refine C2 ?_
   exact I3 rfl (C1 rfl (by rfl))
  intro h24
  refine C3 (A2 ?_)
  refine A1 rfl (G0 rfl (A0 rfl) B4 (by first | omega | (simp only [C8, A7, szR] at *; omega))) ?_
  refine A5 rfl ?_
  refine A4 ?_
  refine K4 i (i + 1) ?_ ?_ (K2 ⟨rfl, rfl, rfl, rfl, trivial⟩)
  ·exact ⟨by omega, by rw [List.take_add_one, List.take_add_one, hinv.2, hx, hy]; congr 2; simpa using h24⟩
  omega
 intro h14
 have k14 := of_decide_eq_false h14; try simp only [A8] at k14
 have hyes : decide (a = b) = true := decide_eq_true (by have h9 := hinv.2; rw [List.take_of_length_le (by omega), List.take_of_length_le (by omega)] at h9; exact h9)
 rw [hyes]
 refine G1 ?_
 refine A3 (A2 ?_)
 refine A1 rfl (B6 rfl E9) ?_
 refine A4 ?_
 refine C2 ?_
 exact I3 rfl (C1 rfl (by rfl))
theorem Az9 (a b : List TWrite) : FSpec Tryz.prog 129 [AV.list 3 (a.map TWrite.cs), AV.list 3 (b.map TWrite.cs)] (AV.bool (decide (a = b))) := by
 refine E2 Tryz.func129 rfl Tryz.ntmps129 rfl ?_
 refine U5 (t := 0) rfl fun hl => ?_
 try simp only [A8] at hl
 refine U5 (t := 1) rfl fun hl2 => ?_
 try simp only [A8] at hl2
 refine A3 (A2 ?_)
 refine A1 rfl (B6 rfl E9) ?_
 refine A4 (A3 (A3 (A2 ?_)))
 refine A5 rfl ?_
 refine A1 rfl (F6 rfl D1 (A0 rfl)) ?_
 refine A5 rfl ?_
 refine A1 rfl (F6 rfl D1 (A0 rfl)) ?_
 refine A1 rfl (Z7 rfl (A0 rfl) (A0 rfl)) ?_
 refine A4 ?_
 refine B9 (A0 rfl) ?_ ?_
 ·intro h10
  have k10 := l0 h10; try simp only [A8] at k10
  have hne : decide (a = b) = false := decide_eq_false fun e => by (subst e; omega)
  rw [hne]
  refine A3 (A2 ?_)
  refine A1 rfl (B6 rfl E9) ?_
  refine A4 ?_
  refine C2 ?_
  exact I3 rfl (C1 rfl (by rfl))
 intro h10
 have k10 := X7 h10; try simp only [A8] at k10
 refine C3 (A3 (A3 (A2 ?_)))
 refine A5 rfl ?_
 refine A1 rfl (F6 rfl D1 (A0 rfl)) ?_
 refine A1 rfl (B8 rfl B4) ?_
 refine A4 (C7 ?_)
 refine J0 [(0, _), (1, _), (12, _)] _ (fun (i : Nat) => i ≤ a.length ∧ a.take i = b.take i) (fun (i : Nat) => []) (fun (i : Nat) => [(13, AV.int i)]) (fun (i : Nat) => a.length - i) (0) ?_ (K2 ⟨rfl, rfl, rfl, rfl, trivial⟩) ?_
 ·exact ⟨Nat.zero_le _, rfl⟩
 intro i hinv
 refine A3 (A2 ?_)
 refine A1 rfl (J8 rfl (A0 rfl) (A0 rfl)) ?_
 refine A4 (A3 ?_)
 refine B9 (A0 rfl) ?_ ?_
 ·intro h14
  have k14 := of_decide_eq_true h14; try simp only [A8] at k14
  have hlt : i < a.length := by omega
  obtain ⟨x, hx⟩ := get_some hlt
  obtain ⟨y, hy⟩ := get_some (show i < b.length by omega)
  refine C3 (A3 (C7 (A3 (A2 ?_))))
  refine A5 rfl ?_
  refine B3 rfl ?_
  refine A4 (A3 ?_)
  refine L1 (by kernel_rfl) (by kernel_rfl) rfl ?_
  refine B2 rfl rfl (B8 rfl (A0 rfl)) ?_
  refine B2 rfl rfl (B8 rfl (A0 rfl)) ?_
  refine B2 rfl rfl (I2 rfl D1 E5 (A0 rfl) (A0 rfl) hx (by first | omega | (simp only [C8, A7, szR] at *; omega))) ?_
  refine B2 rfl rfl (K6 rfl (A0 rfl) P8 E5) ?_
  refine B2 rfl rfl (B8 rfl (A0 rfl)) ?_
  refine B2 rfl rfl (B8 rfl (A0 rfl)) ?_
  refine B2 rfl rfl (I2 rfl D1 E5 (A0 rfl) (A0 rfl) hy (by first | omega | (simp only [C8, A7, szR] at *; omega))) ?_
  refine B2 rfl rfl (K6 rfl (A0 rfl) P8 E5) ?_
  refine B2 rfl rfl (Ad3 rfl J3 (by kernel_rfl) (by kernel_rfl) (A0 rfl) (A0 rfl) (g6 (by kernel_rfl) G3 rfl rfl (AJ6 Q3) (g6 (by kernel_rfl) G3 rfl rfl (AJ6 Q3) (g6 (by kernel_rfl) O5 rfl rfl (AM5 V8) AW2)))) ?_
  refine P7 ?_
  refine B9 (A0 rfl) ?_ ?_
  ·intro h24
   have hne : decide (a = b) = false := decide_eq_false fun e => by (subst e; rw [hx] at hy; injection hy with hy; rw [Am2] at h24; simp [hy] at h24)
   rw [hne]
   refine A3 (A2 ?_)
   refine A1 rfl (B6 rfl E9) ?_
   refine A4 ?_
   refine C2 ?_
   exact I3 rfl (C1 rfl (by rfl))
  intro h24
  refine C3 (A2 ?_)
  refine A1 rfl (G0 rfl (A0 rfl) B4 (by first | omega | (simp only [C8, A7, szR] at *; omega))) ?_
  refine A5 rfl ?_
  refine A4 ?_
  refine K4 i (i + 1) ?_ ?_ (K2 ⟨rfl, rfl, rfl, rfl, trivial⟩)
  ·exact ⟨by omega, by rw [List.take_add_one, List.take_add_one, hinv.2, hx, hy]; congr 2; rw [Am2] at h24; simpa using h24⟩
  omega
 intro h14
 have k14 := of_decide_eq_false h14; try simp only [A8] at k14
 have hyes : decide (a = b) = true := decide_eq_true (by have h9 := hinv.2; rw [List.take_of_length_le (by omega), List.take_of_length_le (by omega)] at h9; exact h9)
 rw [hyes]
 refine G1 ?_
 refine A3 (A2 ?_)
 refine A1 rfl (B6 rfl E9) ?_
 refine A4 ?_
 refine C2 ?_
 exact I3 rfl (C1 rfl (by rfl))
theorem same_rec (a b : TRec) : ((((((a.Kind == b.Kind && a.Txn == b.Txn) && a.Time == b.Time) && a.Lead == b.Lead) && a.Yes == b.Yes) && decide (a.Reads = b.Reads)) && decide (a.Writes = b.Writes)) = decide (a = b) := by
  cases a; cases b
  rw [Bool.eq_iff_iff]
  simp only [Bool.and_eq_true, beq_iff_eq, decide_eq_true_eq, TRec.mk.injEq]
  constructor
  · rintro ⟨⟨⟨⟨⟨⟨h1, h2⟩, h3⟩, h4⟩, h5⟩, h6⟩, h7⟩; exact ⟨h1, h2, h3, h4, h6, h7, h5⟩
  · rintro ⟨h1, h2, h3, h4, h6, h7, h5⟩; exact ⟨⟨⟨⟨⟨⟨h1, h2⟩, h3⟩, h4⟩, h5⟩, h6⟩, h7⟩
theorem Ao7 (a b : TRec) : FSpec Tryz.prog 90 [AV.agg a.cs, AV.agg b.cs] (AV.bool (decide (a = b))) := by
 refine E2 Tryz.func90 rfl Tryz.ntmps90 rfl ?_
 refine A3 (A2 ?_)
 refine N1 rfl rfl rfl rfl (A0 rfl) ?_
 intro b2
 refine N1 rfl rfl rfl rfl (A0 rfl) ?_
 intro b3
 refine A1 rfl (B6 rfl E9) ?_
 refine A4 (A3 (A2 ?_))
 refine A1 rfl (B1 0 rfl B7 rfl B5 (A0 rfl) rfl) ?_
 refine A1 rfl (B0 1 rfl (A0 rfl) rfl C6 rfl) ?_
 refine A1 rfl (B1 0 rfl B7 rfl B5 (A0 rfl) rfl) ?_
 refine A1 rfl (B0 0 rfl (A0 rfl) rfl C6 rfl) ?_
 refine A1 rfl (O1 rfl (A0 rfl) (A0 rfl)) ?_
 refine A5 rfl ?_
 refine D3 rfl (fun hc => B1 1 rfl B7 rfl B5 (A0 rfl) rfl) ?_
 refine D3 rfl (fun hc => B0 1 rfl (A9 rfl hc) rfl C6 rfl) ?_
 refine D3 rfl (fun hc => B1 1 rfl B7 rfl B5 (A0 rfl) rfl) ?_
 refine D3 rfl (fun hc => B0 0 rfl (A9 rfl hc) rfl C6 rfl) ?_
 refine D3 rfl (fun hc => O1 rfl (A9 rfl hc) (A9 rfl hc)) ?_
 refine A1 rfl (J5 rfl (A0 rfl) (F7 rfl)) ?_
 refine A5 rfl ?_
 refine D3 rfl (fun hc => B1 2 rfl B7 rfl B5 (A0 rfl) rfl) ?_
 refine D3 rfl (fun hc => B0 1 rfl (A9 rfl hc) rfl C6 rfl) ?_
 refine D3 rfl (fun hc => B1 2 rfl B7 rfl B5 (A0 rfl) rfl) ?_
 refine D3 rfl (fun hc => B0 0 rfl (A9 rfl hc) rfl C6 rfl) ?_
 refine D3 rfl (fun hc => O1 rfl (A9 rfl hc) (A9 rfl hc)) ?_
 refine A1 rfl (J5 rfl (A0 rfl) (F7 rfl)) ?_
 refine A5 rfl ?_
 refine D3 rfl (fun hc => B1 3 rfl B7 rfl B5 (A0 rfl) rfl) ?_
 refine D3 rfl (fun hc => B0 1 rfl (A9 rfl hc) rfl C6 rfl) ?_
 refine D3 rfl (fun hc => B1 3 rfl B7 rfl B5 (A0 rfl) rfl) ?_
 refine D3 rfl (fun hc => B0 0 rfl (A9 rfl hc) rfl C6 rfl) ?_
 refine D3 rfl (fun hc => O1 rfl (A9 rfl hc) (A9 rfl hc)) ?_
 refine A1 rfl (J5 rfl (A0 rfl) (F7 rfl)) ?_
 refine A5 rfl ?_
 refine D3 rfl (fun hc => B1 6 rfl B7 rfl N2 (A0 rfl) rfl) ?_
 refine D3 rfl (fun hc => B0 1 rfl (A9 rfl hc) rfl O5 rfl) ?_
 refine D3 rfl (fun hc => B1 6 rfl B7 rfl N2 (A0 rfl) rfl) ?_
 refine D3 rfl (fun hc => B0 0 rfl (A9 rfl hc) rfl O5 rfl) ?_
 refine D3 rfl (fun hc => w_beql rfl V8 (A9 rfl hc) (A9 rfl hc)) ?_
 refine A1 rfl (J5 rfl (A0 rfl) (F7 rfl)) ?_
 refine A5 rfl ?_
 refine D3 rfl (fun hc => B1 4 rfl B7 rfl H5 (A0 rfl) rfl) ?_
 refine D3 rfl (fun hc => B0 1 rfl (A9 rfl hc) rfl K7 rfl) ?_
 refine D3 rfl (fun hc => B1 4 rfl B7 rfl H5 (A0 rfl) rfl) ?_
 refine D3 rfl (fun hc => B0 0 rfl (A9 rfl hc) rfl K7 rfl) ?_
 refine D3 rfl (fun hc => D7 rfl Tryz.call128 rfl (Az8 a.Reads b.Reads) (A6 (A9 rfl hc) (A6 (A9 rfl hc) C0))) ?_
 refine A1 rfl (J5 rfl (A0 rfl) (F7 rfl)) ?_
 refine A5 rfl ?_
 refine D3 rfl (fun hc => B1 5 rfl B7 rfl L0 (A0 rfl) rfl) ?_
 refine D3 rfl (fun hc => B0 1 rfl (A9 rfl hc) rfl M3 rfl) ?_
 refine D3 rfl (fun hc => B1 5 rfl B7 rfl L0 (A0 rfl) rfl) ?_
 refine D3 rfl (fun hc => B0 0 rfl (A9 rfl hc) rfl M3 rfl) ?_
 refine D3 rfl (fun hc => D7 rfl Tryz.call129 rfl (Az9 a.Writes b.Writes) (A6 (A9 rfl hc) (A6 (A9 rfl hc) C0))) ?_
 refine A1 rfl (J5 rfl (A0 rfl) (F7 rfl)) ?_
 refine B3 rfl ?_
 refine A4 ?_
 refine C2 ?_
 exact I3 rfl (C1 rfl (by exact congrArg AV.bool (same_rec a b)))
theorem AU1 (v : Value) (l : List Str) (hl : l.length < 4611686018427387904) : GSpec Tryz.prog 102 [AV.is v] [.arr v 9 1 (l.map fun s => [AV.str s])] (fun _ : Unit => True) (fun _ => [.arr v 9 1 ((sortS l).map fun s => [AV.str s])]) (fun _ => AV.tup []) :=
  row_own1 Go.Proofs.encStr (fun _ => rfl) sortS AG5
    (fun blk off cap zs w h1 h2 h3 => Any.slices_Sort_string Tryz.sortStrs blk off cap zs w h1 h2 h3) (fun p cap w => Any.slices_Sort_string_none Tryz.sortStrs p cap w) v l hl
end Go.Proofs.YtoaoicnnimjbeaaGreat

namespace Go.Proofs.YtoaoicnnimjbeaaGreat
open Go Go.AV Go.M
attribute [local irreducible] OpW OpA OpS AWP FSpec ESpec GSpec OpE RetOk RetOkG RvDen Le Ev GuardIs SrcIs Int.tmod Int.tdiv IntKind.wrap
theorem AF4 {l : List Str} {i j : Nat} {s : Str} (h : l[i]? = some s) (hj : j = i * 1) : ((l.map fun s => [AV.str s]).flatten)[j]? = some (AV.str s) := by
  rw [hj, Nat.mul_one]
  have e : (l.map fun s => [AV.str s]).flatten = l.map AV.str := by
    clear h
    induction l with
    | nil => rfl
    | cons x l ih => simp [ih]
  rw [e, List.getElem?_map, h]; rfl
theorem AL3 (v : Value) (l : List Str) (hl : l.length ≤ 4194304) : GSpec Tryz.prog 103 [AV.is v] [.arr v 9 1 (l.map fun s => [AV.str s])]
   (fun _ : Value => True) (fun v => [.arr v 9 1 ((cmpL l).map fun s => [AV.str s])]) (fun v => AV.is v) := by
 refine H3 Tryz.func103 rfl Tryz.ntmps103 rfl ?_
 refine A3 (A2 ?_)
 refine A1 rfl (B6 rfl L4) ?_
 refine A4 (A3 (A3 (A2 ?_)))
 refine A5 rfl ?_
 refine A1 rfl (W4 0 rfl C9 (A0 rfl) rfl) ?_
 refine A1 rfl (J8 rfl (A0 rfl) B4) ?_
 refine A4 ?_
 refine B9 (A0 rfl) ?_ ?_
 ·intro h8
  have k8 := of_decide_eq_true h8; try simp only [A8] at k8
  have hall : cmpL l = l := by (unfold cmpL; rw [o8 (Nat.le_refl _) (fun i h1 h2 => by omega), List.take_length])
  refine A3 (A2 ?_)
  refine A5 rfl ?_
  refine B3 rfl ?_
  refine A4 ?_
  refine C2 ?_
  exact L5 [0] v (trivial) rfl (by first | exact congrArg (fun z => [Own.arr _ 9 1 (List.map (fun s => [AV.str s]) z)]) hall | (refine congrArg (fun z => [Own.arr _ 9 1 z]) ?_; exact (AE1 hinv.2.2.2.2.1 hge (by omega)).symm)) (P0 rfl (C1 rfl (by first | rfl | (refine congrArg AV.bool ?_; simp_all; done))))
 intro h8
 have k8 := of_decide_eq_false h8; try simp only [A8] at k8
 refine C3 (A3 (A3 (A2 ?_)))
 refine A1 rfl (B6 rfl B4) ?_
 refine A4 (C7 ?_)
 refine J0 [(0, _)] _ (fun (k : Nat) => (1 ≤ k ∧ k ≤ l.length) ∧ ∀ i, 1 ≤ i → i < k → l[i]? ≠ l[i - 1]?) (fun (k : Nat) => []) (fun (k : Nat) => [(3, AV.int k)]) (fun (k : Nat) => l.length - k) (1) ?_ (K2 ⟨rfl, rfl, trivial⟩) ?_
 ·exact ⟨⟨Nat.le_refl _, by omega⟩, fun i h1 h2 => by omega⟩
 intro k hinv
 refine A3 (A3 (A2 ?_))
 refine A5 rfl ?_
 refine A5 rfl ?_
 refine A1 rfl (W4 0 rfl C9 (A0 rfl) rfl) ?_
 refine A1 rfl (J8 rfl (A0 rfl) (A0 rfl)) ?_
 refine A4 ?_
 refine B9 (A0 rfl) ?_ ?_
 ·intro h13
  have k13 := of_decide_eq_true h13; try simp only [A8] at k13
  have hlt : k < l.length := by omega
  obtain ⟨x, hx⟩ := get_some hlt
  obtain ⟨y, hy⟩ := get_some (show k - 1 < l.length by omega)
  refine C3 (A3 (C7 (A3 ?_)))
  refine L1 (by kernel_rfl) (by kernel_rfl) rfl ?_
  refine B2 rfl rfl (B8 rfl (A0 rfl)) ?_
  refine B2 rfl rfl (B8 rfl (A0 rfl)) ?_
  refine B2 rfl rfl (U7 0 rfl C9 E3 (A0 rfl) rfl (A0 rfl) (by first | omega | (simp only [C8, A7, szR] at *; omega)) (by first | omega | (simp only [C8, A7, szR] at *; omega))) ?_
  refine B2 rfl rfl (g8 0 rfl (A0 rfl) rfl G3 (AF4 hx (by omega))) ?_
  refine B2 rfl rfl (B8 rfl (A0 rfl)) ?_
  refine B2 rfl rfl (B8 rfl (A0 rfl)) ?_
  refine B2 rfl rfl (R7 rfl (A0 rfl) B4 (by first | omega | (simp only [C8, A7, szR] at *; omega))) ?_
  refine B2 rfl rfl (U7 0 rfl C9 E3 (A0 rfl) rfl (A0 rfl) (by first | omega | (simp only [C8, A7, szR] at *; omega)) (by first | omega | (simp only [C8, A7, szR] at *; omega))) ?_
  refine B2 rfl rfl (g8 0 rfl (A0 rfl) rfl G3 (AF4 hy (by omega))) ?_
  refine B2 rfl rfl (u6 rfl (A0 rfl) (A0 rfl)) ?_
  refine P7 ?_
  refine B9 (A0 rfl) ?_ ?_
  ·intro h25
   have hxy : l[k]? = l[k - 1]? := by (rw [hx, hy]; have h9 := h25; simp at h9; rw [h9])
   have hinv0 := hinv
   refine A3 (A2 ?_)
   refine A5 rfl ?_
   refine A5 rfl ?_
   refine A1 rfl (AW3 0 rfl C9 E3 (A0 rfl) rfl (A0 rfl) (by first | omega | (simp only [C8, A7, szR] at *; omega)) (by first | omega | (simp only [C8, A7, szR] at *; omega))) ?_
   refine B3 rfl ?_
   refine A4 (A3 (A3 (A2 ?_)))
   refine A1 rfl (B6 rfl B4) ?_
   refine A4 (C7 ?_)
   refine d7 [(0, _), (4, _), (10, _), (11, _), (12, _), (13, _), (16, _), (17, _), (18, _), (19, _), (20, _), (21, _), (22, _), (23, _), (24, _), (25, _), (26, _), (27, _), (28, _)] _ (fun (i : Nat) (j : Nat) (m : List Str) => 1 ≤ j ∧ k + j ≤ l.length ∧ i + 1 ≤ k + j ∧ m.length = l.length ∧ m.take i = cmpN l (k + j) ∧ m.drop (k + j - 1) = l.drop (k + j - 1)) (fun (i : Nat) (j : Nat) (m : List Str) => [.arr v 9 1 (m.map fun s => [AV.str s])]) (fun (i : Nat) (j : Nat) (m : List Str) => [(3, AV.int i), (5, AV.int j)]) (fun (i : Nat) (j : Nat) (m : List Str) => l.length - (k + j)) (k) (1) (l) ?_ (O8 (by rfl) ⟨rfl, rfl, rfl, rfl, rfl, rfl, rfl, rfl, rfl, rfl, rfl, rfl, rfl, rfl, rfl, rfl, rfl, rfl, rfl, rfl, rfl, trivial⟩) ?_
   ·exact ⟨Nat.le_refl _, by omega, by omega, rfl, by rw [AS2 (by omega) hxy, o8 (by omega) hinv0.2], rfl⟩
   intro i j m hinv
   refine A3 (A3 (A2 ?_))
   refine A5 rfl ?_
   refine A5 rfl ?_
   refine A1 rfl (w_tlen 0 rfl C9 (A0 rfl) rfl) ?_
   refine A1 rfl (J8 rfl (A0 rfl) (A0 rfl)) ?_
   refine A4 ?_
   refine B9 (A0 rfl) ?_ ?_
   ·intro h32
    have k32 := of_decide_eq_true h32; try simp only [A8] at k32
    have hm := hinv.2.2.2.1
    have hlt1 : k + j < l.length := by omega
    obtain ⟨x1, hx1⟩ := get_some hlt1
    obtain ⟨y1, hy1⟩ := get_some (show k + j - 1 < l.length by omega)
    have hmx := u7 hinv.2.2.2.2.2 hx1 (by omega)
    have hmy := u7 hinv.2.2.2.2.2 hy1 (by omega)
    refine C3 (A3 (C7 (A3 ?_)))
    refine L1 (by kernel_rfl) (by kernel_rfl) rfl ?_
    refine B2 rfl rfl (B8 rfl (A0 rfl)) ?_
    refine B2 rfl rfl (B8 rfl (A0 rfl)) ?_
    refine B2 rfl rfl (AL2 0 rfl C9 E3 (A0 rfl) rfl (A0 rfl) (by omega) (by simp only [A8]; omega)) ?_
    refine B2 rfl rfl (g8 0 rfl (A0 rfl) rfl G3 (AF4 hmx (by rw [show ((k : Int).toNat + (j : Int).toNat) = k + j by omega]))) ?_
    refine B2 rfl rfl (B8 rfl (A0 rfl)) ?_
    refine B2 rfl rfl (B8 rfl (A0 rfl)) ?_
    refine B2 rfl rfl (R7 rfl (A0 rfl) B4 (by first | omega | (simp only [C8, A7, szR] at *; omega))) ?_
    refine B2 rfl rfl (AL2 0 rfl C9 E3 (A0 rfl) rfl (A0 rfl) (by omega) (by simp only [A8]; omega)) ?_
    refine B2 rfl rfl (g8 0 rfl (A0 rfl) rfl G3 (AF4 hmy (by rw [show ((k : Int).toNat + ((j : Int) - 1).toNat) = k + j - 1 by omega]))) ?_
    refine B2 rfl rfl (AJ3 rfl (A0 rfl) (A0 rfl)) ?_
    refine P7 ?_
    refine B9 (A0 rfl) ?_ ?_
    ·intro h44
     refine A3 (A2 ?_)
     refine A5 rfl ?_
     refine A5 rfl ?_
     refine A5 rfl ?_
     refine A5 rfl ?_
     refine A1 rfl (AL2 0 rfl C9 E3 (A0 rfl) rfl (A0 rfl) (by omega) (by simp only [A8]; omega)) ?_
     refine A1 rfl (g8 0 rfl (A0 rfl) rfl G3 (AF4 hmx (by rw [show ((k : Int).toNat + (j : Int).toNat) = k + j by omega]))) ?_
     refine A1 rfl (U7 0 rfl C9 E3 (A0 rfl) rfl (A0 rfl) (by omega) (by simp only [A8]; omega)) ?_
     refine AB3 0 rfl rfl rfl (A0 rfl) (A0 rfl) (L7 _) rfl E3 rfl (by simp only [A8, Int.toNat_natCast]; omega) ?_
     refine A4 (A2 ?_)
     refine A5 rfl ?_
     refine A1 rfl (G0 rfl (A0 rfl) B4 (by first | omega | (simp only [C8, A7, szR] at *; omega))) ?_
     refine B3 rfl ?_
     refine A4 (A2 ?_)
     refine A5 rfl ?_
     refine A1 rfl (G0 rfl (A0 rfl) B4 (by first | omega | (simp only [C8, A7, szR] at *; omega))) ?_
     refine B3 rfl ?_
     refine A4 ?_
     refine Z0 i j m (i + 1) (j + 1) (m.set i x1) ?_ ?_ (O8 (by first | exact congrArg (fun z => [Own.arr v 9 1 z]) (List.map_set).symm | rfl) ⟨rfl, rfl, rfl, rfl, rfl, rfl, rfl, rfl, rfl, rfl, rfl, rfl, rfl, rfl, rfl, rfl, rfl, rfl, rfl, rfl, rfl, trivial⟩)
     ·exact As9 hinv (by omega) hx1 hy1 (by simpa using h44)
     omega
    intro h44
    refine C3 (A2 ?_)
    refine A5 rfl ?_
    refine A1 rfl (G0 rfl (A0 rfl) B4 (by first | omega | (simp only [C8, A7, szR] at *; omega))) ?_
    refine B3 rfl ?_
    refine A4 ?_
    refine Z0 i j m (i) (j + 1) (m) ?_ ?_ (O8 (by first | exact congrArg (fun z => [Own.arr v 9 1 z]) (List.map_set).symm | rfl) ⟨rfl, rfl, rfl, rfl, rfl, rfl, rfl, rfl, rfl, rfl, rfl, rfl, rfl, rfl, rfl, rfl, rfl, rfl, rfl, rfl, rfl, trivial⟩)
    ·exact At0 hinv (by omega) hx1 hy1 (by simpa using h44)
    omega
   intro h32
   have k32 := of_decide_eq_false h32; try simp only [A8] at k32
   have hm := hinv.2.2.2.1
   have hge : k + j = l.length := by omega
   refine G1 ?_
   refine A3 (A2 ?_)
   refine A5 rfl ?_
   refine A5 rfl ?_
   refine A1 rfl (AW3 0 rfl C9 E3 (A0 rfl) rfl (A0 rfl) (by first | omega | (simp only [C8, A7, szR] at *; omega)) (by first | omega | (simp only [C8, A7, szR] at *; omega))) ?_
   refine Ak2 0 rfl rfl rfl C9 Tryz.zeroValue9 rfl rfl (by decide) (A0 rfl) rfl (by simp only [A8, Int.toNat_natCast]; omega) ?_
   refine A4 (A3 (A2 ?_))
   refine A5 rfl ?_
   refine A5 rfl ?_
   refine As3 0 rfl rfl rfl rfl C9 E3 (A0 rfl) rfl (A0 rfl) (by omega) (by simp only [A8, J6, D9, List.length_replicate]; omega) ?_
   intro v59_1
   refine B3 rfl ?_
   refine A4 ?_
   refine C2 ?_
   exact L5 [0] v59_1 (trivial) rfl (by first | exact congrArg (fun z => [Own.arr _ 9 1 (List.map (fun s => [AV.str s]) z)]) hall | (refine congrArg (fun z => [Own.arr _ 9 1 z]) ?_; exact (AE1 hinv.2.2.2.2.1 hge (by omega)).symm)) (P0 rfl (C1 rfl (by first | rfl | (refine congrArg AV.bool ?_; simp_all; done))))
  intro h25
  refine C3 (A2 ?_)
  refine A5 rfl ?_
  refine A1 rfl (G0 rfl (A0 rfl) B4 (by first | omega | (simp only [C8, A7, szR] at *; omega))) ?_
  refine B3 rfl ?_
  refine A4 ?_
  refine K4 k (k + 1) ?_ ?_ (K2 ⟨rfl, rfl, trivial⟩)
  ·exact ⟨⟨by omega, by omega⟩, fun i h1 h2 => if e : i = k then (by subst e; rw [hx, hy]; intro e; injection e with e; subst e; simp at h25) else hinv.2 i h1 (by omega)⟩
  omega
 intro h13
 have k13 := of_decide_eq_false h13; try simp only [A8] at k13
 have hall : cmpL l = l := by (unfold cmpL; rw [o8 (Nat.le_refl _) (fun i h1 h2 => hinv.2 i h1 (by omega)), List.take_length])
 refine G1 ?_
 refine A3 (A2 ?_)
 refine A5 rfl ?_
 refine B3 rfl ?_
 refine A4 ?_
 refine C2 ?_
 exact L5 [0] v (trivial) rfl (by first | exact congrArg (fun z => [Own.arr _ 9 1 (List.map (fun s => [AV.str s]) z)]) hall | (refine congrArg (fun z => [Own.arr _ 9 1 z]) ?_; exact (AE1 hinv.2.2.2.2.1 hge (by omega)).symm)) (P0 rfl (C1 rfl (by first | rfl | (refine congrArg AV.bool ?_; simp_all; done))))
theorem BH2 (r : List Str) (w : List TWrite) (hr : r.length ≤ 1000000) (hw : sizeL TWrite.size w ≤ 1048576) : GSpec Tryz.prog 71 [strs r, AV.list 3 (w.map TWrite.cs)] [] (fun _ : Value => True) (fun v => [.arr v 9 1 ((keysI (r ++ wKeys w)).map fun s => [AV.str s])]) (fun v => AV.is v) := by
 have hwl : (wKeys w).length ≤ 1048576 := by have := O4 (f := TWrite.size) (l := w); unfold wKeys; rw [A8]; omega
 have hsl : (sortS (r ++ wKeys w)).length ≤ 4194304 := by rw [AG5, J6]; omega
 refine H3 Tryz.func71 rfl Tryz.ntmps71 rfl ?_
 refine A3 (A2 ?_)
 refine A1 rfl (B6 rfl L4) ?_
 refine A4 (A3 (A2 ?_))
 refine A5 rfl ?_
 refine H9 [] rfl rfl rfl rfl Tryz.call86 rfl (t6 _ (by first | assumption | omega)) (A6 (A0 rfl) C0) rfl ?_
 intro x7 ok7
 refine A5 rfl ?_
 refine A1 rfl (D7 rfl Tryz.call101 rfl (AK8 w (by omega)) (A6 (A0 rfl) C0)) ?_
 refine L2 (by' := 16) 0 rfl rfl rfl rfl C9 Tryz.type9 rfl rfl rfl rfl rfl rfl (A0 rfl) (A0 rfl) rfl (by first | omega | (simp only [C8, A7, szR] at *; omega)) ?_
 intro v10_1
 refine B3 rfl ?_
 refine A4 (A3 ?_)
 refine P2 (congrArg (fun z => [Own.arr _ 9 1 z]) (List.map_append (f := fun s => [AV.str s]) (l₁ := r) (l₂ := wKeys w)).symm) ?_
 refine A2 ?_
 refine A5 rfl ?_
 refine H9 [0] rfl rfl rfl rfl Tryz.call102 rfl (AU1 _ (r ++ wKeys w) (by rw [J6]; omega)) (A6 (A0 rfl) C0) rfl ?_
 intro x12 ok12
 refine A4 (A3 (A2 ?_))
 refine A5 rfl ?_
 refine H9 [0] rfl rfl rfl rfl Tryz.call103 rfl (AL3 _ (sortS (r ++ wKeys w)) hsl) (A6 (A0 rfl) C0) rfl ?_
 intro x14 ok14
 refine B3 rfl ?_
 refine A4 ?_
 refine C2 ?_
 exact L5 [0] x14 (trivial) rfl (by rfl) (P0 rfl (C1 rfl (by rfl)))
end Go.Proofs.YtoaoicnnimjbeaaGreat

namespace Go.M
open Go.AV
theorem BM5 {l : List TWrite} (h : adj wLess l = true) (k : Str) : wHas l k = hasK l k := by
  have e := findW_eq h k
  cases hw : wHas l k with
  | true =>
    obtain ⟨x, hx, hk⟩ := AN6.1 hw
    exact (n5.2 ⟨x, F9 hx, hk⟩).symm
  | false =>
    rw [hw] at e
    simp only [Bool.false_eq_true, if_false] at e
    unfold findW at e
    rw [List.find?_eq_none] at e
    cases hk : hasK l k with
    | false => rfl
    | true => obtain ⟨x, hx, hxk⟩ := n5.1 hk; have := e x hx; simp [hxk] at this
theorem BH3 {w : List TWrite} (h : goodWrites w = true) : adj wLess w = true := by
  unfold goodWrites areRising wKeys at h
  simp only [Bool.and_eq_true] at h
  have := h.1.2.2
  rw [AW5] at this
  exact this
theorem BM6 {l : List TCell} (ha : adj cLess l = true) {k : Str} {c : TCell} (hc : cHas l k = true → l[cPos l k]? = some c) : fullC l k = (cHas l k && decide ((16 : Int) ≤ (c.Vers.length : Int))) := by
  unfold fullC
  rw [Aa8 ha]
  cases h : cHas l k with
  | false => simp
  | true =>
    rw [if_pos rfl, hc h, Bool.true_and]
    dsimp only
    rw [decide_eq_decide]; omega
theorem Y1 {l : List THeld} {i : Nat} {h : THeld} {n : Nat} (hs : sizeL THeld.size l ≤ n) (hx : l[i]? = some h) : h.size ≤ n ∧ sizeL TWrite.size h.Writes ≤ n ∧ h.Writes.length ≤ n ∧ h.Reads.length ≤ n ∧ (hRec h).size ≤ n := by
  have h1 := Nat.le_trans (Y5 hx) hs
  have h2 : h.size = sizeL (fun x => x.length) h.Reads + sizeL TWrite.size h.Writes := rfl
  have h3 := O4 (f := fun x : Str => x.length) (l := h.Reads)
  have h4 := O4 (f := TWrite.size) (l := h.Writes)
  have h5 : (hRec h).size = sizeL (fun x => x.length) h.Reads + sizeL TWrite.size h.Writes := rfl
  exact ⟨by omega, by omega, by omega, by omega, by omega⟩
theorem AQ3 {α : Type} {f : α → Nat} {l : List α} (i : Nat) : sizeL f (l.take i) ≤ sizeL f l := by
  have := o9 (f := f) (l := l.take i) (r := l.drop i)
  rw [List.take_append_drop] at this; omega
theorem AW9 : ∀ {l : List THeld}, (hWs l).length ≤ sizeL THeld.size l
  | [] => Nat.zero_le _
  | h :: l => by
    have ih := AW9 (l := l)
    have h4 := O4 (f := TWrite.size) (l := h.Writes)
    have h2 : h.size = sizeL (fun x => x.length) h.Reads + sizeL TWrite.size h.Writes := rfl
    rw [AO0, J6, N7]; omega
theorem Au4 {l : List THeld} {i : Nat} {h : THeld} (hx : l[i]? = some h) : hWs (l.take (i + 1)) = hWs (l.take i) ++ h.Writes := by
  rw [List.take_add_one, hx, BG4]
  show _ ++ hWs [h] = _
  rw [AO0]; simp [hWs]
def hCmp (n : Int) (h : THeld) : Int := cmpInt h.Txn n
def hPos (l : List THeld) (n : Int) : Nat := bs (hCmp n) l 0 l.length
def hHas (l : List THeld) (n : Int) : Bool := bsAt (hCmp n) l (hPos l n)
theorem AO8 (a b : Int) : cmpInt a b < 0 ↔ a < b := by unfold cmpInt; split <;> (try split) <;> omega
theorem AY8 (a b : Int) : cmpInt a b = 0 ↔ a = b := by unfold cmpInt; split <;> (try split) <;> omega
theorem AX0 {α : Type} {f : α → Int} {l : List α} (h : l.Pairwise fun a b => f a < f b) {i j : Nat} {x y : α} (hij : i < j) (hx : l[i]? = some x) (hy : l[j]? = some y) : f x < f y := by
  obtain ⟨i1, i2⟩ := List.getElem?_eq_some_iff.1 hx
  obtain ⟨j1, j2⟩ := List.getElem?_eq_some_iff.1 hy
  have := List.pairwise_iff_getElem.1 h i j i1 j1 hij
  rw [i2, j2] at this; exact this
theorem bsI_spec {α : Type} {f : α → Int} {l : List α} (h : l.Pairwise fun a b => f a < f b) (n : Int) : (∀ i x, i < bs (fun a => cmpInt (f a) n) l 0 l.length → l[i]? = some x → f x < n) ∧ (∀ x, l[bs (fun a => cmpInt (f a) n) l 0 l.length]? = some x → n ≤ f x) := by
  have := Ah2 (fun a => cmpInt (f a) n) l (fun i j x y hij hx hy hf => by
    rw [AO8] at *
    have := AX0 h hij hx hy; omega) l.length 0 l.length rfl (Nat.zero_le _) (Nat.le_refl _) (fun k x hk => by omega) (fun x hx => by rw [List.getElem?_eq_none (Nat.le_refl _)] at hx; cases hx)
  exact ⟨fun i x hi hx => (AO8 _ _).1 (this.1 i x hi hx), fun x hx => by have := this.2 x hx; rw [AO8] at this; omega⟩
theorem bsI_has {α : Type} {f : α → Int} {l : List α} (h : l.Pairwise fun a b => f a < f b) (n : Int) : bsAt (fun a => cmpInt (f a) n) l (bs (fun a => cmpInt (f a) n) l 0 l.length) = l.any fun a => f a == n := by
  obtain ⟨h1, h2⟩ := bsI_spec h n
  cases ha : l.any fun a => f a == n with
  | true =>
    rw [List.any_eq_true] at ha
    obtain ⟨x, hx, e⟩ := ha
    obtain ⟨i, hi⟩ := List.getElem?_of_mem hx
    have e : f x = n := by simpa using e
    have hip : bs (fun a => cmpInt (f a) n) l 0 l.length = i := by
      rcases Nat.lt_trichotomy i (bs (fun a => cmpInt (f a) n) l 0 l.length) with h3 | h3 | h3
      · have := h1 i x h3 hi; omega
      · exact h3.symm
      · have hl := (List.getElem?_eq_some_iff.1 hi).1
        have hy := List.getElem?_eq_getElem (show bs (fun a => cmpInt (f a) n) l 0 l.length < l.length by omega)
        have h4 := h2 _ hy
        have h5 := AX0 h h3 hy hi; omega
    rw [hip]
    unfold bsAt
    rw [hi]
    simp only [(AY8 _ _).2 e]; rfl
  | false =>
    rw [List.any_eq_false] at ha
    unfold bsAt
    cases e : l[bs (fun a => cmpInt (f a) n) l 0 l.length]? with
    | none => rfl
    | some x =>
      have := ha x (F9 e)
      simp only [beq_iff_eq] at this ⊢
      rw [beq_eq_false_iff_ne]
      exact fun k => this ((AY8 _ _).1 k)
theorem BD7 {l : List THeld} (h : l.Pairwise fun a b => a.Txn < b.Txn) (n : Int) : hHas l n = hasH l n := bsI_has (f := THeld.Txn) h n
theorem X0 {s : TState} {n : Nat} (h : s.size ≤ n) : sizeL TCell.size s.Cells ≤ n ∧ sizeL THeld.size s.Held ≤ n ∧ s.Told.length ≤ n ∧ s.Cells.length ≤ n ∧ s.Held.length ≤ n := by
  have h1 : s.size = sizeL TCell.size s.Cells + sizeL THeld.size s.Held + s.Told.length := rfl
  have h2 := O4 (f := TCell.size) (l := s.Cells)
  have h3 := O4 (f := THeld.size) (l := s.Held)
  exact ⟨by omega, by omega, by omega, by omega, by omega⟩
theorem AC1 {s : TState} {i : Nat} {h y : THeld} (hx : s.Held[i]? = some h) (hy : s.Held[i - 1]? = some y) : heldAt s i = (!(((!goodRec (hRec h) || decide (s.Floor < h.Time)) || (decide ((0 : Int) < (i : Int)) && decide (h.Txn ≤ y.Txn)))) && (!((s.Held.take i).any fun g => clash h g) && !(h.Writes.any fun w => decide (h.Time ≤ lastTime s.Cells w.Key)))) := by
  unfold heldAt
  rw [hx]
  have h1 : hPrev s.Held i h.Txn = !(decide ((0 : Int) < (i : Int)) && decide (h.Txn ≤ y.Txn)) := by
    unfold hPrev; rw [hy]; dsimp only
    congr 2
    rw [decide_eq_decide]; omega
  have h2 : ((s.Held.take i).all fun g => apart g h.Reads h.Writes) = !((s.Held.take i).any fun g => clash h g) := by
    rw [List.not_any_eq_all_not]; congr 1; funext g; rw [AY3, Bool.not_not]
  have h3 : (h.Writes.all fun w => decide (lastTime s.Cells w.Key < h.Time)) = !(h.Writes.any fun w => decide (h.Time ≤ lastTime s.Cells w.Key)) := by
    rw [List.not_any_eq_all_not]; congr 1; funext w; rw [← decide_not, decide_eq_decide]; omega
  dsimp only
  rw [h1, h2, h3]
  simp only [Bool.not_or, Bool.not_not, Bool.and_assoc]
theorem AY9 {s : TState} {i : Nat} {h : THeld} (hx : s.Held[i]? = some h) (hg : heldAt s i = true) : goodRec (hRec h) = true ∧ ∀ g, 0 < i → s.Held[i - 1]? = some g → g.Txn < h.Txn := by
  unfold heldAt at hg
  rw [hx] at hg
  simp only [Bool.and_eq_true, AS9] at hg
  exact ⟨hg.1.1.1.1, hg.1.1.2⟩
theorem Ab3 {h : THeld} (hg : goodRec (hRec h) = true) : adj wLess h.Writes = true := by
  unfold goodRec hRec at hg
  rw [if_pos rfl] at hg
  unfold good1 at hg
  simp only [Bool.and_eq_true] at hg
  exact BH3 hg.1.1.2
theorem Au5 {s : TState} (h : areHeld s = true) : s.Held.Pairwise fun a b => a.Txn < b.Txn := by
  unfold areHeld at h
  rw [Bool.and_eq_true, t1] at h
  exact AO1 fun i x y h0 hx hy => (AY9 hx (h.1 i (List.getElem?_eq_some_iff.1 hx).1)).2 y h0 hy
theorem AH1 {s : TState} {i : Nat} {t y : TTold} (hx : s.Told[i]? = some t) (hy : s.Told[i - 1]? = some y) : toldAt s i = (!((!isTxnR t.Txn || !((t.Yes && within t.Time 1 s.Floor) || (!t.Yes && (t.Time == 0)))) || (decide ((0 : Int) < (i : Int)) && decide (t.Txn ≤ y.Txn))) && !hasH s.Held t.Txn) := by
  unfold toldAt
  rw [hx]
  have h1 : tPrev s.Told i t.Txn = !(decide ((0 : Int) < (i : Int)) && decide (t.Txn ≤ y.Txn)) := by
    unfold tPrev; rw [hy]; dsimp only
    congr 2
    rw [decide_eq_decide]; omega
  have h2 : tFits s t = ((t.Yes && within t.Time 1 s.Floor) || (!t.Yes && (t.Time == 0))) := by
    unfold tFits; cases t.Yes <;> simp
  dsimp only
  rw [h1, h2]
  generalize ((t.Yes && within t.Time 1 s.Floor) || (!t.Yes && (t.Time == 0))) = b
  simp only [Bool.not_or, Bool.not_not, Bool.and_assoc]
end Go.M
namespace Go.Proofs.YtoaoicnnimjbeaaGreat
open Go Go.AV Go.M
attribute [local irreducible] OpW OpA OpS AWP FSpec ESpec GSpec OpE RetOk RetOkG RvDen Le Ev GuardIs SrcIs Int.tmod Int.tdiv IntKind.wrap
theorem Ao8 (w : TWrite) (os : List TWrite) (rs : List Str) (hs : os.length ≤ 4611686018427387903) (ha : adj wLess os = true) : FSpec Tryz.prog 195 [AV.agg w.cs, AV.eptr [AV.list 3 (os.map TWrite.cs)], AV.eptr [strs rs]] (AV.bool (hasK os w.Key || hasS rs w.Key)) := by
 have hwh := BM5 ha w.Key
 refine E2 Tryz.func195 rfl Tryz.ntmps195 rfl ?_
 refine A3 (A2 ?_)
 refine N1 rfl rfl rfl rfl (A0 rfl) ?_
 intro b3
 refine A1 rfl (B6 rfl E9) ?_
 refine A4 (A3 (A2 ?_))
 refine A1 rfl (L6 rfl (A0 rfl) M3 rfl) ?_
 refine A1 rfl (B1 0 rfl J3 rfl E3 (A0 rfl) rfl) ?_
 refine A1 rfl (B0 0 rfl (A0 rfl) rfl G3 rfl) ?_
 refine A1 rfl (D7 rfl Tryz.call112 rfl (AK9 _ _ (by omega)) (A6 (A0 rfl) (A6 (A0 rfl) C0))) ?_
 refine A5 rfl ?_
 refine A1 rfl (G6 rfl (A0 rfl) rfl) ?_
 refine A1 rfl (G6 rfl (A0 rfl) rfl) ?_
 refine B3 rfl ?_
 refine B3 rfl ?_
 refine A4 (A3 (A2 ?_))
 refine A5 rfl ?_
 refine A5 rfl ?_
 refine F3 rfl (fun hc => L6 rfl (A0 rfl) K7 rfl) ?_
 refine F3 rfl (fun hc => B1 0 rfl J3 rfl E3 (A0 rfl) rfl) ?_
 refine F3 rfl (fun hc => B0 0 rfl (A9 rfl hc) rfl G3 rfl) ?_
 refine F3 rfl (fun hc => D7 rfl Tryz.call196 rfl (AR0 _ _) (A6 (A9 rfl hc) (A6 (A9 rfl hc) C0))) ?_
 refine A1 rfl (Q8 rfl (A0 rfl) (F7 rfl)) ?_
 refine B3 rfl ?_
 refine A4 ?_
 refine C2 ?_
 exact I3 rfl (C1 rfl (by exact congrArg AV.bool (by rw [hwh]; rfl)))
theorem AU2 (ws : List TWrite) (rs : List Str) (os : List TWrite) (hs : os.length ≤ 4611686018427387903) (ha : adj wLess os = true) : FSpec Tryz.prog 166 [AV.list 3 (ws.map TWrite.cs), strs rs, AV.list 3 (os.map TWrite.cs)] (AV.bool (overlap ws rs os)) := by
 refine E2 Tryz.func166 rfl Tryz.ntmps166 rfl ?_
 refine A3 (A2 ?_)
 refine BC0 rfl rfl rfl rfl (A0 rfl) (Aa2 _ _) ?_
 intro b4
 refine BC0 rfl rfl rfl rfl (A0 rfl) (Aa2 _ _) ?_
 intro b5
 refine A1 rfl (B6 rfl E9) ?_
 refine A4 (A3 (A2 ?_))
 refine A5 rfl ?_
 refine A1 rfl (Ar3 rfl rfl (A6 (A0 rfl) (A6 (A0 rfl) C0))) ?_
 refine A1 rfl (j8 rfl Tryz.call114 rfl (m1 _ _ _ (by first | (intros; trivial) | assumption | (intros; first | trivial | (simp_all; done)))) (H2 _) (U9 (evb (A0 rfl)) (U9 (AC8 (Ar9 0 1 (A0 rfl) rfl rfl) (AM4 Tryz.call195 (fun w (_ : True) => Ao8 w _ _ (by first | assumption | omega) (by assumption)))) Z8))) ?_
 refine B3 rfl ?_
 refine A4 ?_
 refine C2 ?_
 exact I3 rfl (C1 rfl (by first | rfl | (refine congrArg AV.bool ?_; simp_all; done)))
theorem BH4 (h k : THeld) (h1 : h.Writes.length ≤ 4611686018427387903) (k1 : k.Writes.length ≤ 4611686018427387903) (ha : adj wLess h.Writes = true) (ka : adj wLess k.Writes = true) : FSpec Tryz.prog 133 [AV.agg h.cs, AV.agg k.cs] (AV.bool (clash h k)) := by
 refine E2 Tryz.func133 rfl Tryz.ntmps133 rfl ?_
 refine A3 (A2 ?_)
 refine N1 rfl rfl rfl rfl (A0 rfl) ?_
 intro b2
 refine N1 rfl rfl rfl rfl (A0 rfl) ?_
 intro b3
 refine A1 rfl (B6 rfl E9) ?_
 refine A4 (A3 (A2 ?_))
 refine A1 rfl (B1 4 rfl G2 rfl L0 (A0 rfl) rfl) ?_
 refine A1 rfl (B0 1 rfl (A0 rfl) rfl M3 rfl) ?_
 refine A1 rfl (B1 3 rfl G2 rfl H5 (A0 rfl) rfl) ?_
 refine A1 rfl (B0 0 rfl (A0 rfl) rfl K7 rfl) ?_
 refine A1 rfl (B1 4 rfl G2 rfl L0 (A0 rfl) rfl) ?_
 refine A1 rfl (B0 0 rfl (A0 rfl) rfl M3 rfl) ?_
 refine A1 rfl (D7 rfl Tryz.call166 rfl (AU2 _ _ _ (by first | assumption | omega) (by assumption)) (A6 (A0 rfl) (A6 (A0 rfl) (A6 (A0 rfl) C0)))) ?_
 refine A5 rfl ?_
 refine F3 rfl (fun hc => B1 4 rfl G2 rfl L0 (A0 rfl) rfl) ?_
 refine F3 rfl (fun hc => B0 0 rfl (A9 rfl hc) rfl M3 rfl) ?_
 refine F3 rfl (fun hc => B1 3 rfl G2 rfl H5 (A0 rfl) rfl) ?_
 refine F3 rfl (fun hc => B0 1 rfl (A9 rfl hc) rfl K7 rfl) ?_
 refine F3 rfl (fun hc => B1 4 rfl G2 rfl L0 (A0 rfl) rfl) ?_
 refine F3 rfl (fun hc => B0 1 rfl (A9 rfl hc) rfl M3 rfl) ?_
 refine F3 rfl (fun hc => D7 rfl Tryz.call166 rfl (AU2 _ _ _ (by first | assumption | omega) (by assumption)) (A6 (A9 rfl hc) (A6 (A9 rfl hc) (A6 (A9 rfl hc) C0)))) ?_
 refine A1 rfl (Q8 rfl (A0 rfl) (F7 rfl)) ?_
 refine B3 rfl ?_
 refine A4 ?_
 refine C2 ?_
 exact I3 rfl (C1 rfl (by first | rfl | (refine congrArg AV.bool ?_; simp_all; done)))
theorem Au6 (h : THeld) : FSpec Tryz.prog 130 [AV.agg h.cs] (AV.agg (hRec h).cs) := by
 refine E2 Tryz.func130 rfl Tryz.ntmps130 rfl ?_
 refine A3 (A2 ?_)
 refine N1 rfl rfl rfl rfl (A0 rfl) ?_
 intro b1
 refine F5 rfl rfl rfl rfl Tryz.zeroValue104 rfl ?_
 intro b2
 refine A4 (A3 (A2 ?_))
 refine A1 rfl (B1 0 rfl G2 rfl B5 (A0 rfl) rfl) ?_
 refine A1 rfl (B0 1 rfl (A0 rfl) rfl C6 rfl) ?_
 refine A1 rfl (B1 1 rfl G2 rfl B5 (A0 rfl) rfl) ?_
 refine A1 rfl (B0 1 rfl (A0 rfl) rfl C6 rfl) ?_
 refine A1 rfl (B1 2 rfl G2 rfl B5 (A0 rfl) rfl) ?_
 refine A1 rfl (B0 1 rfl (A0 rfl) rfl C6 rfl) ?_
 refine A1 rfl (B1 3 rfl G2 rfl H5 (A0 rfl) rfl) ?_
 refine A1 rfl (B0 1 rfl (A0 rfl) rfl K7 rfl) ?_
 refine A1 rfl (B1 4 rfl G2 rfl L0 (A0 rfl) rfl) ?_
 refine A1 rfl (B0 1 rfl (A0 rfl) rfl M3 rfl) ?_
 refine A1 rfl (N5 (places := #[(0, 1), (1, 1), (2, 1), (3, 1), (4, 1), (5, 1), (6, 1)]) rfl B7 Tryz.zeroValue104 (fun w => by kernel_rfl) rfl (D0 B4 (L8 _ _) (D0 (A0 rfl) (L8 _ _) (D0 (A0 rfl) (L8 _ _) (D0 (A0 rfl) (L8 _ _) (D0 (A0 rfl) (O9 _ _) (D0 (A0 rfl) (O9 _ _) G9)))))) rfl) ?_
 refine D2 0 rfl rfl rfl (A0 rfl) (A0 rfl) (D6 _) rfl H8 rfl ?_
 refine A4 ?_
 refine C2 ?_
 exact I3 rfl (J9 (ys := _) 0 rfl rfl O6 H8 rfl)
theorem Au7 {l : List TCell} {h : List THeld} (a b : Nat) (hl : sizeL TCell.size l ≤ 1048576) (hh : sizeL THeld.size h ≤ 1048576) : (cKeys (l.take a) ++ wKeys (hWs (h.take b))).length ≤ 2097152 := by
  have h1 := O4 (f := TCell.size) (l := l)
  have h2 := AW9 (l := h.take b)
  have h3 := AQ3 (f := THeld.size) (l := h) b
  unfold cKeys wKeys
  simp only [J6, A8, D9]
  omega
theorem BM7 (s : TState) (held : List THeld) (hg : goodCells s.Cells = true) (hs : s.size ≤ 1048576) (hh : sizeL THeld.size held ≤ 1048576) : FSpec Tryz.prog 135 [AV.agg s.cs, AV.list 5 (held.map THeld.cs)] (AV.bool (decide (held.length ≤ 12) && room s.Cells (hWs held))) := by
 obtain ⟨hs1, hs2, hs3, hs4, hs5⟩ := X0 hs
 have hca := (f8 hg).2.1
 have hhl := O4 (f := THeld.size) (l := held)
 obtain ⟨p, hp⟩ : ∃ p : TWrite → Bool, p = fun w => !fullC s.Cells w.Key := ⟨_, rfl⟩
 refine E2 Tryz.func135 rfl Tryz.ntmps135 rfl ?_
 refine A3 (A2 ?_)
 refine N1 rfl rfl rfl rfl (A0 rfl) ?_
 intro b2
 refine A1 rfl (B6 rfl E9) ?_
 refine A4 (A3 (A2 ?_))
 refine U6 rfl rfl rfl rfl C9 E3 ?_
 intro v14
 refine B3 rfl ?_
 refine A4 (A3 (A3 (A2 ?_)))
 refine A1 rfl (B1 1 rfl C4 rfl P6 (A0 rfl) rfl) ?_
 refine A1 rfl (B0 1 rfl (A0 rfl) rfl S1 rfl) ?_
 refine A1 rfl (F6 rfl F2 (A0 rfl)) ?_
 refine A1 rfl (B8 rfl B4) ?_
 refine A4 (C7 ?_)
 refine d7 [(1, _), (2, _), (4, _), (16, _), (17, _)] _ (fun (i : Nat) (v : Value) (ks : List Str) => i ≤ s.Cells.length ∧ ks = cKeys (s.Cells.take i)) (fun (i : Nat) (v : Value) (ks : List Str) => [.arr v 9 1 (ks.map fun k => [AV.str k])]) (fun (i : Nat) (v : Value) (ks : List Str) => [(5, AV.is v), (18, AV.int i)]) (fun (i : Nat) (v : Value) (ks : List Str) => s.Cells.length - i) (0) (v14) ([]) ?_ (O8 (by rfl) ⟨rfl, rfl, rfl, rfl, rfl, rfl, rfl, trivial⟩) ?_
 ·exact ⟨Nat.zero_le _, rfl⟩
 intro i v ks hinv
 refine A3 (A2 ?_)
 refine A1 rfl (J8 rfl (A0 rfl) (A0 rfl)) ?_
 refine A4 (A3 ?_)
 refine B9 (A0 rfl) ?_ ?_
 ·intro h19
  have k19 := of_decide_eq_true h19; try simp only [A8] at k19
  have hlt : i < s.Cells.length := by omega
  obtain ⟨c, hx⟩ := get_some hlt
  have hkl : ks.length ≤ 1048576 := by rw [hinv.2]; unfold cKeys; rw [A8, D9]; omega
  refine C3 (A3 (C7 (A3 (A2 ?_))))
  refine A1 rfl (I2 rfl F2 G5 (A0 rfl) (A0 rfl) hx (by first | omega | (simp only [C8, A7, szR] at *; omega))) ?_
  refine A1 rfl (K6 rfl (A0 rfl) U8 G5) ?_
  refine F5 rfl rfl rfl rfl Tryz.zeroValue115 rfl ?_
  intro b7
  refine D2 0 rfl rfl rfl (A0 rfl) (A0 rfl) (D6 _) rfl G5 rfl ?_
  refine A4 (A2 ?_)
  refine A5 rfl ?_
  refine A1 rfl (B1 0 rfl I1 rfl E3 (A0 rfl) rfl) ?_
  refine A1 rfl (B0 0 rfl (A0 rfl) rfl G3 rfl) ?_
  refine A1 rfl (K9 rfl C9 E3 Tryz.zeroValue9 rfl rfl rfl rfl (D0 (A0 rfl) (L7 _) G9) rfl rfl) ?_
  refine L2 (by' := 16) 1 rfl rfl rfl rfl C9 Tryz.type9 rfl rfl rfl rfl rfl rfl (A0 rfl) (A0 rfl) rfl (by first | omega | (simp only [C8, A7, szR] at *; omega)) ?_
  intro v26_1
  refine B3 rfl ?_
  refine A4 (A2 ?_)
  refine A1 rfl (G0 rfl (A0 rfl) B4 (by first | omega | (simp only [C8, A7, szR] at *; omega))) ?_
  refine A5 rfl ?_
  refine A4 ?_
  refine Z0 i v ks (i + 1) (v26_1) (ks ++ [c.Key]) ?_ ?_ (K0 1 (by (rw [List.map_append]; rfl)) ⟨rfl, rfl, rfl, rfl, rfl, rfl, rfl, trivial⟩)
  ·exact ⟨by omega, by rw [hinv.2]; unfold cKeys; rw [List.take_add_one, hx, List.map_append]; rfl⟩
  omega
 intro h19
 have k19 := of_decide_eq_false h19; try simp only [A8] at k19
 have hge : s.Cells.length ≤ i := by omega
 have hks : ks = cKeys s.Cells := by rw [hinv.2, List.take_of_length_le hge]
 refine G1 ?_
 refine A3 (A3 (A2 ?_))
 refine A5 rfl ?_
 refine A1 rfl (F6 rfl E4 (A0 rfl)) ?_
 refine A1 rfl (B8 rfl B4) ?_
 refine A4 (C7 ?_)
 refine d7 [(1, _), (2, _), (28, _), (29, _)] _ (fun (q : Nat) (v1 : Value) (k1 : List Str) => q ≤ held.length ∧ k1 = cKeys s.Cells ++ wKeys (hWs (held.take q)) ∧ (hWs held).all p = (hWs (held.drop q)).all p) (fun (q : Nat) (v1 : Value) (k1 : List Str) => [.arr v1 9 1 (k1.map fun k => [AV.str k])]) (fun (q : Nat) (v1 : Value) (k1 : List Str) => [(5, AV.is v1), (30, AV.int q)]) (fun (q : Nat) (v1 : Value) (k1 : List Str) => held.length - q) (0) (v) (ks) ?_ (O8 (by rfl) ⟨rfl, rfl, rfl, rfl, rfl, rfl, trivial⟩) ?_
 ·exact ⟨Nat.zero_le _, by rw [hks, List.take_zero]; simp [hWs, wKeys], rfl⟩
 intro q v1 k1 hinv
 refine A3 (A2 ?_)
 refine A1 rfl (J8 rfl (A0 rfl) (A0 rfl)) ?_
 refine A4 (A3 ?_)
 refine B9 (A0 rfl) ?_ ?_
 ·intro h31
  have k31 := of_decide_eq_true h31; try simp only [A8] at k31
  have hlt : q < held.length := by omega
  obtain ⟨h, hh0⟩ := get_some hlt
  obtain ⟨g1, g2, g3, g4, g5⟩ := Y1 hh hh0
  have hinv1 := hinv
  refine C3 (A3 (C7 (A3 (A2 ?_))))
  refine A1 rfl (I2 rfl E4 D5 (A0 rfl) (A0 rfl) hh0 (by first | omega | (simp only [C8, A7, szR] at *; omega))) ?_
  refine A1 rfl (K6 rfl (A0 rfl) K3 D5) ?_
  refine F5 rfl rfl rfl rfl Tryz.zeroValue130 rfl ?_
  intro b9
  refine D2 0 rfl rfl rfl (A0 rfl) (A0 rfl) (D6 _) rfl D5 rfl ?_
  refine A4 (A3 (A2 ?_))
  refine A1 rfl (B1 4 rfl G2 rfl L0 (A0 rfl) rfl) ?_
  refine A1 rfl (B0 0 rfl (A0 rfl) rfl M3 rfl) ?_
  refine A1 rfl (F6 rfl D1 (A0 rfl)) ?_
  refine A1 rfl (B8 rfl B4) ?_
  refine A4 (C7 ?_)
  refine AWP.le (F8 [1] rfl) ?_
  refine d7 [(1, _), (2, _), (9, _), (28, _), (29, _), (30, _), (31, _), (32, _), (33, _), (34, _), (35, _), (36, _)] _ (fun (r : Nat) (v2 : Value) (k2 : List Str) => r ≤ h.Writes.length ∧ k2 = k1 ++ wKeys (h.Writes.take r) ∧ h.Writes.all p = (h.Writes.drop r).all p) (fun (r : Nat) (v2 : Value) (k2 : List Str) => [.arr v2 9 1 (k2.map fun k => [AV.str k])]) (fun (r : Nat) (v2 : Value) (k2 : List Str) => [(5, AV.is v2), (37, AV.int r)]) (fun (r : Nat) (v2 : Value) (k2 : List Str) => h.Writes.length - r) (0) (v1) (k1) ?_ (O8 (by rfl) ⟨rfl, rfl, rfl, rfl, rfl, rfl, rfl, rfl, rfl, rfl, rfl, rfl, rfl, rfl, trivial⟩) ?_
  ·exact ⟨Nat.zero_le _, by simp [wKeys], rfl⟩
  intro r v2 k2 hinv
  refine A3 (A2 ?_)
  refine A1 rfl (J8 rfl (A0 rfl) (A0 rfl)) ?_
  refine A4 (A3 ?_)
  refine B9 (A0 rfl) ?_ ?_
  ·intro h38
   have k38 := of_decide_eq_true h38; try simp only [A8] at k38
   have hlt2 : r < h.Writes.length := by omega
   obtain ⟨w, hw⟩ := get_some hlt2
   obtain ⟨c, hc0⟩ := y6 s.Cells (cPos s.Cells w.Key)
   have hc1 : cHas s.Cells w.Key = true → s.Cells[cPos s.Cells w.Key]? = some c := fun e => by (obtain ⟨y, hy, _⟩ := AN7.1 e; exact hc0 (List.getElem?_eq_some_iff.1 hy).1)
   have hfu := BM6 hca hc1
   have hk2l : k2.length ≤ 3145728 := by rw [hinv.2.1, hinv1.2.1]; have := Au7 s.Cells.length q hs1 hh; rw [List.take_length] at this; unfold wKeys at this ⊢; simp only [J6, A8, D9] at this ⊢; omega
   refine C3 (A3 (C7 (A3 (A2 ?_))))
   refine A1 rfl (I2 rfl D1 E5 (A0 rfl) (A0 rfl) hw (by first | omega | (simp only [C8, A7, szR] at *; omega))) ?_
   refine A1 rfl (K6 rfl (A0 rfl) P8 E5) ?_
   refine F5 rfl rfl rfl rfl Tryz.zeroValue79 rfl ?_
   intro b11
   refine D2 0 rfl rfl rfl (A0 rfl) (A0 rfl) (D6 _) rfl E5 rfl ?_
   refine A4 (A3 (A3 (A2 ?_)))
   refine A1 rfl (B1 1 rfl C4 rfl P6 (A0 rfl) rfl) ?_
   refine A1 rfl (B0 3 rfl (A0 rfl) rfl S1 rfl) ?_
   refine A1 rfl (B1 0 rfl J3 rfl E3 (A0 rfl) rfl) ?_
   refine A1 rfl (B0 0 rfl (A0 rfl) rfl G3 rfl) ?_
   refine A1 rfl (D7 rfl Tryz.call136 rfl (AQ1 s.Cells w.Key (by omega)) (A6 (A0 rfl) (A6 (A0 rfl) C0))) ?_
   refine A5 rfl ?_
   refine A1 rfl (G6 rfl (A0 rfl) rfl) ?_
   refine A1 rfl (G6 rfl (A0 rfl) rfl) ?_
   refine B3 rfl ?_
   refine B3 rfl ?_
   refine A4 (A3 (A2 ?_))
   refine A5 rfl ?_
   refine A5 rfl ?_
   refine D3 rfl (fun hc => B1 1 rfl C4 rfl P6 (A0 rfl) rfl) ?_
   refine D3 rfl (fun hc => B0 3 rfl (A9 rfl hc) rfl S1 rfl) ?_
   refine D3 rfl (fun hc => B8 rfl (A0 rfl)) ?_
   refine D3 rfl (fun hc => n4 rfl F2 G5 (A9 rfl hc) (A9 rfl hc) (by have := (List.getElem?_eq_some_iff.1 (hc1 hc)).1; omega) (by rw [Int.toNat_natCast, List.getElem?_map, hc1 hc]; rfl)) ?_
   refine D3 rfl (fun hc => X1 rfl I1 rfl P9 (A9 rfl hc) rfl) ?_
   refine D3 rfl (fun hc => L6 rfl (A9 rfl hc) S3 rfl) ?_
   refine D3 rfl (fun hc => F6 rfl L3 (A9 rfl hc)) ?_
   refine D3 rfl (fun hc => f5 rfl (A9 rfl hc) B4) ?_
   refine A1 rfl (J5 rfl (A0 rfl) (F7 rfl)) ?_
   refine A4 ?_
   refine B9 (A0 rfl) ?_ ?_
   ·intro h59
    have hpw : p w = false := by rw [hp]; simp only [Bool.not_eq_false']; rw [hfu]; simpa using h59
    have hro : room s.Cells (hWs held) = false := by (unfold room; rw [show ((hWs held).all fun w => !fullC s.Cells w.Key) = false from by rw [← hp, hinv1.2.2, drop_some hh0, AO0, List.all_append, hinv.2.2, drop_some hw, List.all_cons, hpw]; rfl]; rfl)
    refine A3 (A2 ?_)
    refine A1 rfl (B6 rfl E9) ?_
    refine A4 ?_
    refine C2 ?_
    exact I3 rfl (C1 rfl (by first | exact congrArg AV.bool (by rw [hro]; simp) | exact congrArg AV.bool (by rw [hre, Bool.eq_iff_iff]; simp only [Bool.and_eq_true, decide_eq_true_eq, decide_eq_false_iff_not, A8, Bool.false_eq_true, and_false, false_and, false_iff] at *; omega)))
   intro h59
   have hpw : p w = true := by rw [hp]; simp only [Bool.not_eq_true']; rw [hfu]; simpa using h59
   refine C3 (A2 ?_)
   refine A5 rfl ?_
   refine A1 rfl (B1 0 rfl J3 rfl E3 (A0 rfl) rfl) ?_
   refine A1 rfl (B0 0 rfl (A0 rfl) rfl G3 rfl) ?_
   refine A1 rfl (K9 rfl C9 E3 Tryz.zeroValue9 rfl rfl rfl rfl (D0 (A0 rfl) (L7 _) G9) rfl rfl) ?_
   refine L2 (by' := 16) 1 rfl rfl rfl rfl C9 Tryz.type9 rfl rfl rfl rfl rfl rfl (A0 rfl) (A0 rfl) rfl (by first | omega | (simp only [C8, A7, szR] at *; omega)) ?_
   intro v64_2
   refine B3 rfl ?_
   refine A4 (A2 ?_)
   refine A1 rfl (G0 rfl (A0 rfl) B4 (by first | omega | (simp only [C8, A7, szR] at *; omega))) ?_
   refine A5 rfl ?_
   refine A4 ?_
   refine Z0 r v2 k2 (r + 1) (v64_2) (k2 ++ [w.Key]) ?_ ?_ (Le.trans (F8 [0, 0] rfl) (K0 1 (by (rw [List.map_append]; rfl)) ⟨rfl, rfl, rfl, rfl, rfl, rfl, rfl, rfl, rfl, rfl, rfl, rfl, rfl, rfl, trivial⟩))
   ·exact ⟨by omega, by rw [hinv.2.1]; unfold wKeys; rw [List.take_add_one, hw, List.map_append, List.append_assoc]; rfl, by rw [hinv.2.2, drop_some hw, List.all_cons, hpw]; rfl⟩
   omega
  intro h38
  have k38 := of_decide_eq_false h38; try simp only [A8] at k38
  have hge2 : h.Writes.length ≤ r := by omega
  have hk2 : k2 = k1 ++ wKeys h.Writes := by rw [hinv.2.1, List.take_of_length_le hge2]
  have hal : h.Writes.all p = true := by rw [hinv.2.2, List.drop_eq_nil_of_le hge2]; rfl
  refine G1 ?_
  refine A2 ?_
  refine A1 rfl (G0 rfl (A0 rfl) B4 (by first | omega | (simp only [C8, A7, szR] at *; omega))) ?_
  refine A5 rfl ?_
  refine A4 ?_
  refine Z0 q v1 k1 (q + 1) (v2) (k2) ?_ ?_ (Le.trans (F8 [1, 0] rfl) (K0 1 (by rfl) ⟨rfl, rfl, rfl, rfl, rfl, rfl, trivial⟩))
  ·exact ⟨by omega, by rw [hk2, hinv1.2.1, Au4 hh0]; simp [wKeys], by rw [hinv1.2.2, drop_some hh0, AO0, List.all_append, hal]; rfl⟩
  omega
 intro h31
 have k31 := of_decide_eq_false h31; try simp only [A8] at k31
 have hge : held.length ≤ q := by omega
 have hk9 : k1 = cKeys s.Cells ++ wKeys (hWs held) := by rw [hinv.2.1, List.take_of_length_le hge]
 have hal9 : (hWs held).all p = true := by rw [hinv.2.2, List.drop_eq_nil_of_le hge]; rfl
 have hln := Au7 s.Cells.length held.length hs1 hh
 rw [List.take_length, List.take_length, ← hk9] at hln
 have hre : room s.Cells (hWs held) = decide ((cmpL (sortS k1)).length ≤ 24) := by (unfold room roomKs keysI; rw [← hp, hal9, ← hk9]; rfl)
 refine G1 ?_
 refine A3 (A2 ?_)
 refine A5 rfl ?_
 refine H9 [0] rfl rfl rfl rfl Tryz.call102 rfl (AU1 _ k1 (by omega)) (A6 (A0 rfl) C0) rfl ?_
 intro x68 ok68
 refine A4 (A3 (A2 ?_))
 refine A5 rfl ?_
 refine A1 rfl (F6 rfl E4 (A0 rfl)) ?_
 refine A1 rfl (X2 rfl (A0 rfl) B4) ?_
 refine A5 rfl ?_
 refine D3 rfl (fun hc => B8 rfl (A0 rfl)) ?_
 refine AA1 rfl rfl (I9 rfl rfl rfl) ?_ ?_
 ·intro gh74
  refine H9 [0] rfl rfl rfl rfl Tryz.call103 rfl (AL3 _ (sortS k1) (by rw [AG5]; omega)) (A6 (A9 rfl gh74) C0) rfl ?_
  intro x74 ok74
  refine D3 rfl (fun hc => W4 0 rfl C9 (A0 rfl) rfl) ?_
  refine D3 rfl (fun hc => X2 rfl (A9 rfl hc) B4) ?_
  refine A1 rfl (J5 rfl (A0 rfl) (F7 rfl)) ?_
  refine B3 rfl ?_
  refine A4 ?_
  refine C2 ?_
  exact I3 rfl (C1 rfl (by first | exact congrArg AV.bool (by rw [hro]; simp) | exact congrArg AV.bool (by rw [hre, Bool.eq_iff_iff]; simp only [Bool.and_eq_true, decide_eq_true_eq, decide_eq_false_iff_not, A8, Bool.false_eq_true, and_false, false_and, false_iff] at *; omega)))
 intro gh74
 refine AA1 rfl rfl (I9 rfl rfl rfl) (fun hq => by rw [gh74] at hq; cases hq) (fun _ => ?_)
 refine AA1 rfl rfl (I9 rfl rfl rfl) (fun hq => by rw [gh74] at hq; cases hq) (fun _ => ?_)
 refine A1 rfl (J5 rfl (A0 rfl) (Ah9 (x := AV.bool false) gh74)) ?_
 refine B3 rfl ?_
 refine A4 ?_
 refine C2 ?_
 exact I3 rfl (C1 rfl (by first | exact congrArg AV.bool (by rw [hro]; simp) | exact congrArg AV.bool (by rw [hre, Bool.eq_iff_iff]; simp only [Bool.and_eq_true, decide_eq_true_eq, decide_eq_false_iff_not, A8, Bool.false_eq_true, and_false, false_and, false_iff] at *; omega)))
theorem Ao9 (h k : THeld) (h1 : h.Writes.length ≤ 4611686018427387903) (ha : adj wLess h.Writes = true) (hk : adj wLess k.Writes = true ∧ k.Writes.length ≤ 4611686018427387903) : FSpec Tryz.prog 132 [AV.agg k.cs, AV.eptr h.cs] (AV.bool (clash h k)) := by
 obtain ⟨ka, k1⟩ := hk
 refine E2 Tryz.func132 rfl Tryz.ntmps132 rfl ?_
 refine A3 (A2 ?_)
 refine N1 rfl rfl rfl rfl (A0 rfl) ?_
 intro b2
 refine A1 rfl (B6 rfl E9) ?_
 refine A4 (A3 (A2 ?_))
 refine A1 rfl (K6 rfl (A0 rfl) K3 D5) ?_
 refine A1 rfl (F1 0 rfl (A0 rfl) rfl K3 D5 rfl) ?_
 refine A1 rfl (D7 rfl Tryz.call133 rfl (BH4 _ _ (by first | assumption | omega) (by first | assumption | omega) (by assumption) (by assumption)) (A6 (A0 rfl) (A6 (A0 rfl) C0))) ?_
 refine B3 rfl ?_
 refine A4 ?_
 refine C2 ?_
 exact I3 rfl (C1 rfl (by first | rfl | (refine congrArg AV.bool ?_; simp_all; done)))
theorem Ap0 (h : THeld) (s : TState) (w : TWrite) (ho : CellsOk s.Cells) (hs : sizeL TCell.size s.Cells ≤ 1048576) : FSpec Tryz.prog 134 [AV.agg w.cs, AV.eptr h.cs, AV.eptr s.cs] (AV.bool (decide (h.Time ≤ lastTime s.Cells w.Key))) := by
 refine E2 Tryz.func134 rfl Tryz.ntmps134 rfl ?_
 refine A3 (A2 ?_)
 refine N1 rfl rfl rfl rfl (A0 rfl) ?_
 intro b3
 refine A1 rfl (B6 rfl E9) ?_
 refine A4 (A3 ?_)
 refine L1 (by kernel_rfl) (by kernel_rfl) rfl ?_
 refine B2 rfl rfl (X1 rfl G2 rfl B5 (A0 rfl) rfl) ?_
 refine B2 rfl rfl (L6 rfl (A0 rfl) C6 rfl) ?_
 refine B2 rfl rfl (X1 rfl C4 rfl P6 (A0 rfl) rfl) ?_
 refine B2 rfl rfl (L6 rfl (A0 rfl) S1 rfl) ?_
 refine B2 rfl rfl (B1 0 rfl J3 rfl E3 (A0 rfl) rfl) ?_
 refine B2 rfl rfl (B0 0 rfl (A0 rfl) rfl G3 rfl) ?_
 refine B2 rfl rfl (D7 rfl Tryz.call94 rfl (AQ2 _ _ (by first | assumption | exact a6 (by assumption)) (by first | assumption | omega)) (A6 (A0 rfl) (A6 (A0 rfl) C0))) ?_
 refine B2 rfl rfl (X2 rfl (A0 rfl) (A0 rfl)) ?_
 refine B2 rfl rfl (B6 rfl (A0 rfl)) ?_
 refine P7 ?_
 refine C2 ?_
 exact I3 rfl (C1 rfl (by first | rfl | (refine congrArg AV.bool ?_; simp_all; done)))
theorem Au8 (s : TState) (hg : goodCells s.Cells = true) (hs : s.size ≤ 1048576) : FSpec Tryz.prog 93 [AV.agg s.cs] (AV.bool (areHeld s)) := by
 obtain ⟨hs1, hs2, hs3, hs4, hs5⟩ := X0 hs
 have hco := a6 hg
 refine E2 Tryz.func93 rfl Tryz.ntmps93 rfl ?_
 refine A3 (A2 ?_)
 refine N1 rfl rfl rfl rfl (A0 rfl) ?_
 intro b1
 refine A1 rfl (B6 rfl E9) ?_
 refine A4 (A3 (A3 (A2 ?_)))
 refine A1 rfl (B1 2 rfl C4 rfl G8 (A0 rfl) rfl) ?_
 refine A1 rfl (B0 0 rfl (A0 rfl) rfl M5 rfl) ?_
 refine A1 rfl (F6 rfl E4 (A0 rfl)) ?_
 refine A1 rfl (B8 rfl B4) ?_
 refine A4 (C7 ?_)
 refine J0 [(1, _), (6, _), (7, _)] _ (fun (i : Nat) => i ≤ s.Held.length ∧ ∀ j, j < i → heldAt s j = true) (fun (i : Nat) => []) (fun (i : Nat) => [(8, AV.int i)]) (fun (i : Nat) => s.Held.length - i) (0) ?_ (K2 ⟨rfl, rfl, rfl, rfl, trivial⟩) ?_
 ·exact ⟨Nat.zero_le _, fun j hj => by omega⟩
 intro i hinv
 refine A3 (A2 ?_)
 refine A1 rfl (J8 rfl (A0 rfl) (A0 rfl)) ?_
 refine A4 (A3 ?_)
 refine B9 (A0 rfl) ?_ ?_
 ·intro h9
  have k9 := of_decide_eq_true h9; try simp only [A8] at k9
  have hlt : i < s.Held.length := by omega
  obtain ⟨h, hx⟩ := get_some hlt
  obtain ⟨y, hy⟩ := get_some (show i - 1 < s.Held.length by omega)
  obtain ⟨g1, g2, g3, g4, g5⟩ := Y1 hs2 hx
  refine C3 (A3 (C7 (A3 (A2 ?_))))
  refine A5 rfl ?_
  refine A1 rfl (I2 rfl E4 D5 (A0 rfl) (A0 rfl) hx (by first | omega | (simp only [C8, A7, szR] at *; omega))) ?_
  refine A1 rfl (K6 rfl (A0 rfl) K3 D5) ?_
  refine F5 rfl rfl rfl rfl Tryz.zeroValue130 rfl ?_
  intro b4
  refine B3 rfl ?_
  refine D2 0 rfl rfl rfl (A0 rfl) (A0 rfl) (D6 _) rfl D5 rfl ?_
  refine A4 (A3 (A3 ?_))
  refine L1 (by kernel_rfl) (by kernel_rfl) rfl ?_
  refine B2 rfl rfl (F1 0 rfl (A0 rfl) rfl K3 D5 rfl) ?_
  refine B2 rfl rfl (D7 rfl Tryz.call130 rfl (Au6 _) (A6 (A0 rfl) C0)) ?_
  refine B2 rfl rfl (D7 rfl Tryz.call100 rfl (AU0 _ (by first | assumption | omega)) (A6 (A0 rfl) C0)) ?_
  refine B2 rfl rfl (M2 rfl (A0 rfl)) ?_
  refine B2 rfl rfl (B8 rfl (A0 rfl)) ?_
  refine E0 rfl (J1 rfl rfl rfl) (fun hc => B1 1 rfl G2 rfl B5 (A0 rfl) rfl) ?_
  refine E0 rfl (J1 rfl rfl rfl) (fun hc => B0 0 rfl (A9 rfl hc) rfl C6 rfl) ?_
  refine E0 rfl (J1 rfl rfl rfl) (fun hc => B1 0 rfl C4 rfl B5 (A0 rfl) rfl) ?_
  refine E0 rfl (J1 rfl rfl rfl) (fun hc => B0 1 rfl (A9 rfl hc) rfl C6 rfl) ?_
  refine E0 rfl (J1 rfl rfl rfl) (fun hc => R8 rfl (A9 rfl hc) (A9 rfl hc)) ?_
  refine B2 rfl rfl (Q8 rfl (A0 rfl) (F7 rfl)) ?_
  refine B2 rfl rfl (B8 rfl (A0 rfl)) ?_
  refine E0 rfl (J1 rfl rfl rfl) (fun hc => B8 rfl (A0 rfl)) ?_
  refine E0 rfl (J1 rfl rfl rfl) (fun hc => R8 rfl (A9 rfl hc) B4) ?_
  refine E0 rfl (J1 rfl rfl rfl) (fun hc => B8 rfl (A9 rfl hc)) ?_
  refine E0 rfl (E6 rfl rfl rfl) (fun hc => B1 0 rfl G2 rfl B5 (A0 rfl) rfl) ?_
  refine E0 rfl (E6 rfl rfl rfl) (fun hc => B0 0 rfl (A9 rfl hc) rfl C6 rfl) ?_
  refine E0 rfl (E6 rfl rfl rfl) (fun hc => B1 2 rfl C4 rfl G8 (A0 rfl) rfl) ?_
  refine E0 rfl (E6 rfl rfl rfl) (fun hc => B0 1 rfl (A9 rfl hc) rfl M5 rfl) ?_
  refine E0 rfl (E6 rfl rfl rfl) (fun hc => B8 rfl (A0 rfl)) ?_
  refine E0 rfl (E6 rfl rfl rfl) (fun hc => R7 rfl (A9 rfl hc) B4 (by first | omega | ((try simp only [C8, A7, szR] at *); omega) | (have hc2 := hc; simp only [Q0, beq_iff_eq, bne_iff_ne, A8, D9] at hc2; omega))) ?_
  refine E0 rfl (E6 rfl rfl rfl) (fun hc => I2 rfl E4 D5 (A9 rfl hc) (A9 rfl hc) hy (by first | omega | ((try simp only [C8, A7, szR] at *); omega) | (have hc2 := hc; simp only [Q0, beq_iff_eq, bne_iff_ne, A8, D9] at hc2; omega))) ?_
  refine E0 rfl (E6 rfl rfl rfl) (fun hc => X1 rfl G2 rfl B5 (A9 rfl hc) rfl) ?_
  refine E0 rfl (E6 rfl rfl rfl) (fun hc => L6 rfl (A9 rfl hc) C6 rfl) ?_
  refine E0 rfl (E6 rfl rfl rfl) (fun hc => X2 rfl (A9 rfl hc) (A9 rfl hc)) ?_
  refine E0 rfl (J1 rfl rfl rfl) (fun hc => J5 rfl (A9 rfl hc) (T1 rfl hc)) ?_
  refine B2 rfl rfl (Q8 rfl (A0 rfl) (F7 rfl)) ?_
  refine P7 ?_
  refine B9 (A0 rfl) ?_ ?_
  ·intro h39
   have hfin : areHeld s = false := by (unfold areHeld; rw [d9 hlt (by rw [AC1 hx hy, h39]; rfl)]; rfl)
   refine A3 (A2 ?_)
   refine A1 rfl (B6 rfl E9) ?_
   refine A4 ?_
   refine C2 ?_
   exact I3 rfl (C1 rfl (by first | exact congrArg AV.bool hfin.symm | exact congrArg AV.bool (by unfold areHeld; rw [hall]; rfl)))
  intro h39
  have hgr : goodRec (hRec h) = true := by (simp only [Bool.or_eq_false_iff, Bool.not_eq_false'] at h39; exact h39.1.1)
  have hwa := Ab3 hgr
  have hwl : h.Writes.length ≤ 4611686018427387903 := by omega
  have hpre : ∀ g ∈ s.Held.take i, adj wLess g.Writes = true ∧ g.Writes.length ≤ 4611686018427387903 := fun g hm => by (obtain ⟨j, hj⟩ := List.getElem?_of_mem hm; have hjl := (List.getElem?_eq_some_iff.1 hj).1; rw [D9] at hjl; rw [List.getElem?_take_of_lt (by omega)] at hj; have k1 := Y1 hs2 hj; exact ⟨Ab3 (AY9 hj (hinv.2 j (by omega))).1, by omega⟩)
  refine C3 (A3 (A3 (A2 ?_)))
  refine A1 rfl (B1 2 rfl C4 rfl G8 (A0 rfl) rfl) ?_
  refine A1 rfl (B0 1 rfl (A0 rfl) rfl M5 rfl) ?_
  refine A5 rfl ?_
  refine A1 rfl (m8 rfl E4 D5 (A0 rfl) (A0 rfl) (by first | omega | (simp only [C8, A7, szR] at *; omega)) (by first | omega | (simp only [C8, A7, szR] at *; omega))) ?_
  refine A1 rfl (Ar3 rfl rfl (A6 (A0 rfl) C0)) ?_
  refine A1 rfl (j8 rfl Tryz.call131 rfl (AK4 (s.Held.take i) (fun g => adj wLess g.Writes = true ∧ g.Writes.length ≤ 4611686018427387903) (fun g => clash h g) hpre) (H2 _) (U9 (evb (A0 rfl)) (U9 (AC8 (Ar8 0 (A0 rfl) rfl) (AM4 Tryz.call132 (fun g hg => Ao9 _ g (by first | assumption | omega) (by assumption) hg))) Z8))) ?_
  refine A4 ?_
  refine B9 (A0 rfl) ?_ ?_
  ·intro h45
   have hfin : areHeld s = false := by (unfold areHeld; rw [d9 hlt (by rw [AC1 hx hy, h45]; simp)]; rfl)
   refine A3 (A2 ?_)
   refine A1 rfl (B6 rfl E9) ?_
   refine A4 ?_
   refine C2 ?_
   exact I3 rfl (C1 rfl (by first | exact congrArg AV.bool hfin.symm | exact congrArg AV.bool (by unfold areHeld; rw [hall]; rfl)))
  intro h45
  refine C3 (A3 (A2 ?_))
  refine A1 rfl (B1 4 rfl G2 rfl L0 (A0 rfl) rfl) ?_
  refine A1 rfl (B0 0 rfl (A0 rfl) rfl M3 rfl) ?_
  refine A1 rfl (Ar3 rfl rfl (A6 (A0 rfl) (A6 (A0 rfl) C0))) ?_
  refine A1 rfl (j8 rfl Tryz.call114 rfl (m1 _ _ _ (by first | (intros; trivial) | assumption | (intros; first | trivial | (simp_all; done)))) (H2 _) (U9 (evb (A0 rfl)) (U9 (AC8 (Ar9 0 1 (A0 rfl) rfl rfl) (AM4 Tryz.call134 (fun w (_ : True) => Ap0 _ _ w (by assumption) (by first | assumption | omega)))) Z8))) ?_
  refine A4 ?_
  refine B9 (A0 rfl) ?_ ?_
  ·intro h49
   have hfin : areHeld s = false := by (unfold areHeld; rw [d9 hlt (by rw [AC1 hx hy, h49]; simp)]; rfl)
   refine A3 (A2 ?_)
   refine A1 rfl (B6 rfl E9) ?_
   refine A4 ?_
   refine C2 ?_
   exact I3 rfl (C1 rfl (by first | exact congrArg AV.bool hfin.symm | exact congrArg AV.bool (by unfold areHeld; rw [hall]; rfl)))
  intro h49
  refine C3 (A2 ?_)
  refine A1 rfl (G0 rfl (A0 rfl) B4 (by first | omega | (simp only [C8, A7, szR] at *; omega))) ?_
  refine A5 rfl ?_
  refine A4 ?_
  refine K4 i (i + 1) ?_ ?_ (X3 1 ⟨rfl, rfl, rfl, rfl, trivial⟩)
  ·exact ⟨by omega, fun j hj => if hji : j < i then hinv.2 j hji else (by have e : j = i := (by omega); subst e; rw [AC1 hx hy, h39, h45, h49]; rfl)⟩
  omega
 intro h9
 have k9 := of_decide_eq_false h9; try simp only [A8] at k9
 have hge : s.Held.length ≤ i := by omega
 have hall : allB s.Held.length (heldAt s) = true := t1.2 fun j hj => hinv.2 j (by omega)
 refine G1 ?_
 refine A3 (A2 ?_)
 refine A1 rfl (F1 0 rfl (A0 rfl) rfl F0 C5 rfl) ?_
 refine A1 rfl (B1 2 rfl C4 rfl G8 (A0 rfl) rfl) ?_
 refine A1 rfl (B0 0 rfl (A0 rfl) rfl M5 rfl) ?_
 refine A1 rfl (D7 rfl Tryz.call135 rfl (BM7 _ _ (by assumption) (by first | assumption | omega) (by first | assumption | omega)) (A6 (A0 rfl) (A6 (A0 rfl) C0))) ?_
 refine B3 rfl ?_
 refine A4 ?_
 refine C2 ?_
 exact I3 rfl (C1 rfl (by first | exact congrArg AV.bool hfin.symm | exact congrArg AV.bool (by unfold areHeld; rw [hall]; rfl)))
theorem Ai0 (h : THeld) (n : Int) : FSpec Tryz.prog 138 [AV.agg h.cs, AV.int n] (AV.int (hCmp n h)) := by
 refine E2 Tryz.func138 rfl Tryz.ntmps138 rfl ?_
 refine A3 (A2 ?_)
 refine N1 rfl rfl rfl rfl (A0 rfl) ?_
 intro b2
 refine A1 rfl (B6 rfl B4) ?_
 refine A4 (A3 (A2 ?_))
 refine A1 rfl (B1 0 rfl G2 rfl B5 (A0 rfl) rfl) ?_
 refine A1 rfl (B0 0 rfl (A0 rfl) rfl C6 rfl) ?_
 refine A5 rfl ?_
 refine A1 rfl (D7 rfl Tryz.call139 rfl (Az4 _ _) (A6 (A0 rfl) (A6 (A0 rfl) C0))) ?_
 refine B3 rfl ?_
 refine A4 ?_
 refine C2 ?_
 exact I3 rfl (C1 rfl (by first | rfl | (refine congrArg AV.bool ?_; simp_all; done)))
theorem Au9 (f : Int) (c t : List (List AV)) (l : List THeld) (n : Int) (hs : l.length ≤ 1048576) : FSpec Tryz.prog 95 [AV.agg [AV.int f, AV.list 2 c, AV.list 5 (l.map THeld.cs), AV.list 3 t], AV.int n] (AV.tup [AV.int (hPos l n), AV.bool (hHas l n)]) := by
 refine E2 Tryz.func95 rfl Tryz.ntmps95 rfl ?_
 refine A3 (A2 ?_)
 refine N1 rfl rfl rfl rfl (A0 rfl) ?_
 intro b2
 refine A1 rfl (B6 rfl B4) ?_
 refine A1 rfl (B6 rfl E9) ?_
 refine A4 (A3 (A2 ?_))
 refine A1 rfl (B1 2 rfl C4 rfl G8 (A0 rfl) rfl) ?_
 refine A1 rfl (B0 0 rfl (A0 rfl) rfl M5 rfl) ?_
 refine A5 rfl ?_
 refine A1 rfl (D7 rfl Tryz.call137 rfl (AK6 _ _ _ (by first | (intros; trivial) | assumption | (intros; first | trivial | (simp_all; done))) _ (by omega)) (A6 (A0 rfl) (A6 (A0 rfl) (A6 (Ag7 Tryz.call138 (fun h n (_ : True) => Ai0 h n)) C0)))) ?_
 refine A1 rfl (G6 rfl (A0 rfl) rfl) ?_
 refine A1 rfl (G6 rfl (A0 rfl) rfl) ?_
 refine B3 rfl ?_
 refine B3 rfl ?_
 refine A4 ?_
 refine C2 ?_
 exact X8 rfl (by decide) (E7 (C1 rfl (by first | rfl | (refine congrArg AV.bool ?_; simp_all; done))) (E7 (C1 rfl (by first | rfl | (refine congrArg AV.bool ?_; simp_all; done))) M0))
theorem Ap1 (s : TState) (n : Int) (hs : s.Held.length ≤ 1048576) : FSpec Tryz.prog 95 [AV.agg s.cs, AV.int n] (AV.tup [AV.int (hPos s.Held n), AV.bool (hHas s.Held n)]) := Au9 _ _ _ s.Held n hs
theorem Ai1 (s : TState) (hs : s.size ≤ 1048576) : FSpec Tryz.prog 58 [AV.agg s.cs] (AV.bool (goodState s)) := by
 obtain ⟨hs1, hs2, hs3, hs4, hs5⟩ := X0 hs
 refine E2 Tryz.func58 rfl Tryz.ntmps58 rfl ?_
 refine A3 (A2 ?_)
 refine N1 rfl rfl rfl rfl (A0 rfl) ?_
 intro b1
 refine A1 rfl (B6 rfl E9) ?_
 refine A4 (A3 (A3 (A2 ?_)))
 refine A1 rfl (B1 0 rfl C4 rfl B5 (A0 rfl) rfl) ?_
 refine A1 rfl (B0 0 rfl (A0 rfl) rfl C6 rfl) ?_
 refine A1 rfl (D7 rfl Tryz.call40 rfl (AI5 _) (A6 (A0 rfl) C0)) ?_
 refine A1 rfl (M2 rfl (A0 rfl)) ?_
 refine A5 rfl ?_
 refine F3 rfl (fun hc => B1 1 rfl C4 rfl P6 (A0 rfl) rfl) ?_
 refine F3 rfl (fun hc => B0 0 rfl (A9 rfl hc) rfl S1 rfl) ?_
 refine F3 rfl (fun hc => D7 rfl Tryz.call47 rfl (AL0 _ (by first | assumption | omega)) (A6 (A9 rfl hc) C0)) ?_
 refine F3 rfl (fun hc => M2 rfl (A9 rfl hc)) ?_
 refine A1 rfl (Q8 rfl (A0 rfl) (F7 rfl)) ?_
 refine A5 rfl ?_
 refine F3 rfl (fun hc => F1 0 rfl (A0 rfl) rfl F0 C5 rfl) ?_
 refine F3 rfl (fun hc => D7 rfl Tryz.call93 rfl (Au8 s (by have h9 := hc; simp at h9; exact h9.2) hs) (A6 (A9 rfl hc) C0)) ?_
 refine F3 rfl (fun hc => M2 rfl (A9 rfl hc)) ?_
 refine A1 rfl (Q8 rfl (A0 rfl) (F7 rfl)) ?_
 refine A5 rfl ?_
 refine F3 rfl (fun hc => B1 3 rfl C4 rfl O7 (A0 rfl) rfl) ?_
 refine F3 rfl (fun hc => B0 0 rfl (A9 rfl hc) rfl T0 rfl) ?_
 refine F3 rfl (fun hc => F6 rfl I8 (A9 rfl hc)) ?_
 refine F3 rfl (fun hc => R8 rfl (A9 rfl hc) B4) ?_
 refine A1 rfl (Q8 rfl (A0 rfl) (F7 rfl)) ?_
 refine A4 ?_
 refine B9 (A0 rfl) ?_ ?_
 ·intro h30
  have hfin : goodState s = false := by (unfold goodState; simp only [Bool.or_eq_true, Bool.not_eq_true', decide_eq_true_eq, A8] at h30; rcases h30 with ((h | h) | h) | h; (rw [h]; rfl); (rw [h]; simp); (rw [h]; simp); (rw [decide_eq_false (show ¬ s.Told.length ≤ 60 by omega)]; simp))
  refine A3 (A2 ?_)
  refine A1 rfl (B6 rfl E9) ?_
  refine A4 ?_
  refine C2 ?_
  exact I3 rfl (C1 rfl (by exact congrArg AV.bool hfin.symm))
 intro h30
 simp only [Bool.or_eq_false_iff, Bool.not_eq_false', decide_eq_false_iff_not, A8] at h30
 obtain ⟨⟨⟨q1, q2⟩, q3⟩, q4⟩ := h30
 have hco := a6 q2
 have hsrt := Au5 q3
 have hgs : goodState s = ((s.Cells.all fun c => decide (lastTime s.Cells c.Key ≤ s.Floor)) && allB s.Told.length (toldAt s)) := by (unfold goodState; rw [q1, q2, q3, decide_eq_true (show s.Told.length ≤ 60 by omega)]; simp)
 refine C3 (A3 (A3 (A2 ?_)))
 refine A1 rfl (B1 1 rfl C4 rfl P6 (A0 rfl) rfl) ?_
 refine A1 rfl (B0 0 rfl (A0 rfl) rfl S1 rfl) ?_
 refine A1 rfl (F6 rfl F2 (A0 rfl)) ?_
 refine A1 rfl (B8 rfl B4) ?_
 refine A4 (C7 ?_)
 refine J0 [(1, _), (32, _), (33, _)] _ (fun (i : Nat) => i ≤ s.Cells.length ∧ (s.Cells.all fun c => decide (lastTime s.Cells c.Key ≤ s.Floor)) = ((s.Cells.drop i).all fun c => decide (lastTime s.Cells c.Key ≤ s.Floor))) (fun (i : Nat) => []) (fun (i : Nat) => [(34, AV.int i)]) (fun (i : Nat) => s.Cells.length - i) (0) ?_ (K2 ⟨rfl, rfl, rfl, rfl, trivial⟩) ?_
 ·exact ⟨Nat.zero_le _, rfl⟩
 intro i hinv
 refine A3 (A2 ?_)
 refine A1 rfl (J8 rfl (A0 rfl) (A0 rfl)) ?_
 refine A4 (A3 ?_)
 refine B9 (A0 rfl) ?_ ?_
 ·intro h35
  have k35 := of_decide_eq_true h35; try simp only [A8] at k35
  have hlt : i < s.Cells.length := by omega
  obtain ⟨c, hx⟩ := get_some hlt
  refine C3 (A3 (C7 (A3 (A2 ?_))))
  refine A1 rfl (I2 rfl F2 G5 (A0 rfl) (A0 rfl) hx (by first | omega | (simp only [C8, A7, szR] at *; omega))) ?_
  refine A1 rfl (K6 rfl (A0 rfl) U8 G5) ?_
  refine F5 rfl rfl rfl rfl Tryz.zeroValue115 rfl ?_
  intro b4
  refine D2 0 rfl rfl rfl (A0 rfl) (A0 rfl) (D6 _) rfl G5 rfl ?_
  refine A4 (A3 ?_)
  refine L1 (by kernel_rfl) (by kernel_rfl) rfl ?_
  refine B2 rfl rfl (B1 1 rfl C4 rfl P6 (A0 rfl) rfl) ?_
  refine B2 rfl rfl (B0 1 rfl (A0 rfl) rfl S1 rfl) ?_
  refine B2 rfl rfl (B1 0 rfl I1 rfl E3 (A0 rfl) rfl) ?_
  refine B2 rfl rfl (B0 0 rfl (A0 rfl) rfl G3 rfl) ?_
  refine B2 rfl rfl (D7 rfl Tryz.call94 rfl (AQ2 _ _ (by first | assumption | exact a6 (by assumption)) (by first | assumption | omega)) (A6 (A0 rfl) (A6 (A0 rfl) C0))) ?_
  refine B2 rfl rfl (B1 0 rfl C4 rfl B5 (A0 rfl) rfl) ?_
  refine B2 rfl rfl (B0 1 rfl (A0 rfl) rfl C6 rfl) ?_
  refine B2 rfl rfl (R8 rfl (A0 rfl) (A0 rfl)) ?_
  refine P7 ?_
  refine B9 (A0 rfl) ?_ ?_
  ·intro h45
   have k45 := of_decide_eq_true h45; try simp only [A8] at k45
   have hfin : goodState s = false := by (rw [hgs, hinv.2, drop_some hx, List.all_cons, decide_eq_false (show ¬ lastTime s.Cells c.Key ≤ s.Floor by omega)]; rfl)
   refine A3 (A2 ?_)
   refine A1 rfl (B6 rfl E9) ?_
   refine A4 ?_
   refine C2 ?_
   exact I3 rfl (C1 rfl (by exact congrArg AV.bool hfin.symm))
  intro h45
  have k45 := of_decide_eq_false h45; try simp only [A8] at k45
  refine C3 (A2 ?_)
  refine A1 rfl (G0 rfl (A0 rfl) B4 (by first | omega | (simp only [C8, A7, szR] at *; omega))) ?_
  refine A5 rfl ?_
  refine A4 ?_
  refine K4 i (i + 1) ?_ ?_ (X3 1 ⟨rfl, rfl, rfl, rfl, trivial⟩)
  ·exact ⟨by omega, by rw [hinv.2, drop_some hx, List.all_cons, decide_eq_true (show lastTime s.Cells c.Key ≤ s.Floor by omega)]; rfl⟩
  omega
 intro h35
 have k35 := of_decide_eq_false h35; try simp only [A8] at k35
 have hge : s.Cells.length ≤ i := by omega
 have hgs2 : goodState s = allB s.Told.length (toldAt s) := by (rw [hgs, hinv.2, List.drop_eq_nil_of_le hge]; rfl)
 refine G1 ?_
 refine A3 (A3 (A2 ?_))
 refine A1 rfl (B1 3 rfl C4 rfl O7 (A0 rfl) rfl) ?_
 refine A1 rfl (B0 0 rfl (A0 rfl) rfl T0 rfl) ?_
 refine A1 rfl (F6 rfl I8 (A0 rfl)) ?_
 refine A1 rfl (B8 rfl B4) ?_
 refine A4 (C7 ?_)
 refine J0 [(1, _), (48, _), (49, _)] _ (fun (q : Nat) => q ≤ s.Told.length ∧ ∀ j, j < q → toldAt s j = true) (fun (q : Nat) => []) (fun (q : Nat) => [(50, AV.int q)]) (fun (q : Nat) => s.Told.length - q) (0) ?_ (K2 ⟨rfl, rfl, rfl, rfl, trivial⟩) ?_
 ·exact ⟨Nat.zero_le _, fun j hj => by omega⟩
 intro q hinv
 refine A3 (A2 ?_)
 refine A1 rfl (J8 rfl (A0 rfl) (A0 rfl)) ?_
 refine A4 (A3 ?_)
 refine B9 (A0 rfl) ?_ ?_
 ·intro h51
  have k51 := of_decide_eq_true h51; try simp only [A8] at k51
  have hlt : q < s.Told.length := by omega
  obtain ⟨t, hx⟩ := get_some hlt
  obtain ⟨y, hy⟩ := get_some (show q - 1 < s.Told.length by omega)
  refine C3 (A3 (C7 (A3 (A2 ?_))))
  refine A5 rfl ?_
  refine A1 rfl (I2 rfl I8 M1 (A0 rfl) (A0 rfl) hx (by first | omega | (simp only [C8, A7, szR] at *; omega))) ?_
  refine A1 rfl (K6 rfl (A0 rfl) Y9 M1) ?_
  refine F5 rfl rfl rfl rfl Tryz.zeroValue132 rfl ?_
  intro b6
  refine B3 rfl ?_
  refine D2 0 rfl rfl rfl (A0 rfl) (A0 rfl) (D6 _) rfl M1 rfl ?_
  refine A4 (A3 (A2 ?_))
  refine A1 rfl (B1 1 rfl M9 rfl N2 (A0 rfl) rfl) ?_
  refine A1 rfl (B0 0 rfl (A0 rfl) rfl O5 rfl) ?_
  refine A5 rfl ?_
  refine D3 rfl (fun hc => B1 2 rfl M9 rfl B5 (A0 rfl) rfl) ?_
  refine D3 rfl (fun hc => B0 0 rfl (A9 rfl hc) rfl C6 rfl) ?_
  refine D3 rfl (fun hc => B1 0 rfl C4 rfl B5 (A0 rfl) rfl) ?_
  refine D3 rfl (fun hc => B0 1 rfl (A9 rfl hc) rfl C6 rfl) ?_
  refine D3 rfl (fun hc => D7 rfl Tryz.call61 rfl (m0 _ _ _) (A6 (A9 rfl hc) (A6 B4 (A6 (A9 rfl hc) C0)))) ?_
  refine A1 rfl (J5 rfl (A0 rfl) (F7 rfl)) ?_
  refine A5 rfl ?_
  refine F3 rfl (fun hc => B1 1 rfl M9 rfl N2 (A0 rfl) rfl) ?_
  refine F3 rfl (fun hc => B0 0 rfl (A9 rfl hc) rfl O5 rfl) ?_
  refine F3 rfl (fun hc => M2 rfl (A9 rfl hc)) ?_
  refine F3 rfl (fun hc => B8 rfl (A9 rfl hc)) ?_
  refine J7 rfl rfl (E6 rfl rfl rfl) (fun hc => B1 2 rfl M9 rfl B5 (A0 rfl) rfl) ?_
  refine J7 rfl rfl (E6 rfl rfl rfl) (fun hc => B0 0 rfl (A9 rfl hc) rfl C6 rfl) ?_
  refine J7 rfl rfl (E6 rfl rfl rfl) (fun hc => O1 rfl (A9 rfl hc) B4) ?_
  refine F3 rfl (fun hc => J5 rfl (A9 rfl hc) (T1 rfl hc)) ?_
  refine A1 rfl (Q8 rfl (A0 rfl) (F7 rfl)) ?_
  refine B3 rfl ?_
  refine A4 (A3 (A3 ?_))
  refine L1 (by kernel_rfl) (by kernel_rfl) rfl ?_
  refine B2 rfl rfl (B1 0 rfl M9 rfl B5 (A0 rfl) rfl) ?_
  refine B2 rfl rfl (B0 0 rfl (A0 rfl) rfl C6 rfl) ?_
  refine B2 rfl rfl (D7 rfl Tryz.call69 rfl (r6 _) (A6 (A0 rfl) C0)) ?_
  refine B2 rfl rfl (M2 rfl (A0 rfl)) ?_
  refine B2 rfl rfl (B8 rfl (A0 rfl)) ?_
  refine E0 rfl (J1 rfl rfl rfl) (fun hc => B8 rfl (A0 rfl)) ?_
  refine E0 rfl (J1 rfl rfl rfl) (fun hc => M2 rfl (A9 rfl hc)) ?_
  refine B2 rfl rfl (Q8 rfl (A0 rfl) (F7 rfl)) ?_
  refine B2 rfl rfl (B8 rfl (A0 rfl)) ?_
  refine E0 rfl (J1 rfl rfl rfl) (fun hc => B8 rfl (A0 rfl)) ?_
  refine E0 rfl (J1 rfl rfl rfl) (fun hc => R8 rfl (A9 rfl hc) B4) ?_
  refine E0 rfl (J1 rfl rfl rfl) (fun hc => B8 rfl (A9 rfl hc)) ?_
  refine E0 rfl (E6 rfl rfl rfl) (fun hc => B1 0 rfl M9 rfl B5 (A0 rfl) rfl) ?_
  refine E0 rfl (E6 rfl rfl rfl) (fun hc => B0 0 rfl (A9 rfl hc) rfl C6 rfl) ?_
  refine E0 rfl (E6 rfl rfl rfl) (fun hc => B1 3 rfl C4 rfl O7 (A0 rfl) rfl) ?_
  refine E0 rfl (E6 rfl rfl rfl) (fun hc => B0 1 rfl (A9 rfl hc) rfl T0 rfl) ?_
  refine E0 rfl (E6 rfl rfl rfl) (fun hc => B8 rfl (A0 rfl)) ?_
  refine E0 rfl (E6 rfl rfl rfl) (fun hc => R7 rfl (A9 rfl hc) B4 (by first | omega | ((try simp only [C8, A7, szR] at *); omega) | (have hc2 := hc; simp only [Q0, beq_iff_eq, bne_iff_ne, A8, D9] at hc2; omega))) ?_
  refine E0 rfl (E6 rfl rfl rfl) (fun hc => I2 rfl I8 M1 (A9 rfl hc) (A9 rfl hc) hy (by first | omega | ((try simp only [C8, A7, szR] at *); omega) | (have hc2 := hc; simp only [Q0, beq_iff_eq, bne_iff_ne, A8, D9] at hc2; omega))) ?_
  refine E0 rfl (E6 rfl rfl rfl) (fun hc => X1 rfl M9 rfl B5 (A9 rfl hc) rfl) ?_
  refine E0 rfl (E6 rfl rfl rfl) (fun hc => L6 rfl (A9 rfl hc) C6 rfl) ?_
  refine E0 rfl (E6 rfl rfl rfl) (fun hc => X2 rfl (A9 rfl hc) (A9 rfl hc)) ?_
  refine E0 rfl (J1 rfl rfl rfl) (fun hc => J5 rfl (A9 rfl hc) (T1 rfl hc)) ?_
  refine B2 rfl rfl (Q8 rfl (A0 rfl) (F7 rfl)) ?_
  refine P7 ?_
  refine B9 (A0 rfl) ?_ ?_
  ·intro h97
   have hfin : goodState s = false := by (rw [hgs2]; exact d9 hlt (by rw [AH1 hx hy, h97]; rfl))
   refine A3 (A2 ?_)
   refine A1 rfl (B6 rfl E9) ?_
   refine A4 ?_
   refine C2 ?_
   exact I3 rfl (C1 rfl (by exact congrArg AV.bool hfin.symm))
  intro h97
  refine C3 (A3 (A2 ?_))
  refine A1 rfl (F1 1 rfl (A0 rfl) rfl F0 C5 rfl) ?_
  refine A1 rfl (B1 0 rfl M9 rfl B5 (A0 rfl) rfl) ?_
  refine A1 rfl (B0 0 rfl (A0 rfl) rfl C6 rfl) ?_
  refine A1 rfl (D7 rfl Tryz.call95 rfl (Ap1 _ _ (by first | assumption | omega)) (A6 (A0 rfl) (A6 (A0 rfl) C0))) ?_
  refine A5 rfl ?_
  refine A1 rfl (G6 rfl (A0 rfl) rfl) ?_
  refine A1 rfl (G6 rfl (A0 rfl) rfl) ?_
  refine B3 rfl ?_
  refine B3 rfl ?_
  refine A4 (A3 (A2 ?_))
  refine A5 rfl ?_
  refine A4 ?_
  refine B9 (A0 rfl) ?_ ?_
  ·intro h105
   have hfin : goodState s = false := by (rw [hgs2]; exact d9 hlt (by rw [AH1 hx hy, ← BD7 hsrt, h105]; simp))
   refine A3 (A2 ?_)
   refine A1 rfl (B6 rfl E9) ?_
   refine A4 ?_
   refine C2 ?_
   exact I3 rfl (C1 rfl (by exact congrArg AV.bool hfin.symm))
  intro h105
  refine C3 (A2 ?_)
  refine A1 rfl (G0 rfl (A0 rfl) B4 (by first | omega | (simp only [C8, A7, szR] at *; omega))) ?_
  refine A5 rfl ?_
  refine A4 ?_
  refine K4 q (q + 1) ?_ ?_ (X3 1 ⟨rfl, rfl, rfl, rfl, trivial⟩)
  ·exact ⟨by omega, fun j hj => if hji : j < q then hinv.2 j hji else (by have e : j = q := (by omega); subst e; rw [AH1 hx hy, h97, ← BD7 hsrt, h105]; rfl)⟩
  omega
 intro h51
 have k51 := of_decide_eq_false h51; try simp only [A8] at k51
 have hge : s.Told.length ≤ q := by omega
 have hfin : goodState s = true := by (rw [hgs2]; exact t1.2 fun j hj => hinv.2 j (by omega))
 refine G1 ?_
 refine A3 (A2 ?_)
 refine A1 rfl (B6 rfl E9) ?_
 refine A4 ?_
 refine C2 ?_
 exact I3 rfl (C1 rfl (by exact congrArg AV.bool hfin.symm))
end Go.Proofs.YtoaoicnnimjbeaaGreat

namespace Go.Proofs.YtoaoicnnimjbeaaGreat
open Go Go.AV Go.M
attribute [local irreducible] OpW OpA OpS AWP FSpec ESpec GSpec OpE RetOk RetOkG RvDen Le Ev GuardIs
def TRec.ow (c : TRec) (x : Value × Value) : List Own := [.arr x.1 9 1 (c.Reads.map (fun x => [AV.str x])), .arr x.2 79 3 (c.Writes.map TWrite.cs)]
theorem TRec.lc (c : TRec) (x : Value × Value) : LendC (TRec.ow c x) (TRec.ocs c x) c.cs := (G4 M4 (G4 M4 (G4 M4 (G4 M4 (G4 (M8 (F9 (i := 0) rfl) I7) (G4 (M8 (F9 (i := 1) rfl) I7) (G4 M4 U3)))))))
def TPlaces.ow (c : TPlaces) (x : Value × Value) : List Own := [.arr x.1 9 1 (c.Cuts.map (fun x => [AV.str x])), .arr x.2 3 1 (c.Groups.map (fun x => [AV.int x]))]
theorem TPlaces.lc (c : TPlaces) (x : Value × Value) : LendC (TPlaces.ow c x) (TPlaces.ocs c x) c.cs := (G4 M4 (G4 (M8 (F9 (i := 0) rfl) I7) (G4 (M8 (F9 (i := 1) rfl) I7) U3)))
def TMove.ow (c : TMove) (x : Value × Value) : List Own := [.arr x.1 79 3 (c.From.map TWrite.cs), .arr x.2 79 3 (c.To.map TWrite.cs)]
theorem TMove.lc (c : TMove) (x : Value × Value) : LendC (TMove.ow c x) (TMove.ocs c x) c.cs := (G4 M4 (G4 M4 (G4 M4 (G4 (M8 (F9 (i := 0) rfl) I7) (G4 (M8 (F9 (i := 1) rfl) I7) (G4 M4 (G4 M4 U3)))))))
end Go.Proofs.YtoaoicnnimjbeaaGreat

namespace Go.AV
section
variable {T X : Type} {cs : T → List AV} {ocs : T → X → List AV} {ow : T → X → List Own}
theorem BM8 {l : List T} {xs : List X} {i : Nat} {p : T} {x : X} (hi : i ≤ l.length) (h : xs.length = l.length) : (nrows ocs l xs).take i ++ ocs p x :: (nrows ocs l xs).drop i = nrows ocs (l.take i ++ p :: l.drop i) (xs.take i ++ x :: xs.drop i) := by
  unfold nrows
  rw [List.zipWith_append (by rw [D9, D9]; omega), List.zipWith_cons_cons, List.take_zipWith, List.drop_zipWith]
theorem nin_ins {l : List T} {xs : List X} {i : Nat} {p : T} {x : X} (hi : i ≤ l.length) (h : xs.length = l.length) : (ow p x ++ nin ow l xs).Perm (nin ow (l.take i ++ p :: l.drop i) (xs.take i ++ x :: xs.drop i)) := by
  have e : nin ow l xs = nin ow (l.take i) (xs.take i) ++ nin ow (l.drop i) (xs.drop i) := by
    unfold nin
    rw [← List.flatten_append, ← List.zipWith_append (by rw [D9, D9]; omega), List.take_append_drop, List.take_append_drop]
  have e2 : nin ow (l.take i ++ p :: l.drop i) (xs.take i ++ x :: xs.drop i) = nin ow (l.take i) (xs.take i) ++ (ow p x ++ nin ow (l.drop i) (xs.drop i)) := by
    unfold nin
    rw [List.zipWith_append (by rw [D9, D9]; omega), List.zipWith_cons_cons, List.flatten_append, List.flatten_cons]
  rw [e, e2, ← List.append_assoc, ← List.append_assoc]
  exact List.Perm.append_right _ List.perm_append_comm
theorem Av0 {X : Type} {xs : List X} {i : Nat} {x : X} (hi : i ≤ xs.length) : (xs.take i ++ x :: xs.drop i).length = xs.length + 1 := by
  rw [J6, I5, D9, List.length_drop]; omega
end
end Go.AV
namespace Go.Proofs.YtoaoicnnimjbeaaGreat
open Go Go.AV Go.M
attribute [local irreducible] OpW OpA OpS AWP FSpec ESpec GSpec OpE RetOk RetOkG RvDen Le Ev GuardIs SrcIs
def TCell.ow (c : TCell) (x : Value) : List Own := [.arr x 117 3 (c.Vers.map TVer.cs)]
theorem TCell.lcM {own : List Own} (c : TCell) (x : Value) (h : ∀ o ∈ TCell.ow c x, o ∈ own) : LendC own (TCell.ocs c x) c.cs := G4 M4 (G4 (M8 (h _ (F9 (i := 0) rfl)) I7) U3)
theorem BH5 {l : List TCell} {xs : List Value} {p : TCell} {x : Value} {i : Nat} (hp : l[i]? = some p) (h : xs.length = i) : nrows TCell.ocs (l.take i) xs ++ TCell.ocs p x :: (l.drop (i + 1)).map TCell.cs = nrows TCell.ocs (l.take (i + 1)) (xs ++ [x]) ++ (l.drop (i + 1)).map TCell.cs := by
  rw [← Ae3 hp h, List.append_assoc]; rfl
theorem Ap2 (l : List TCell) (hs : sizeL TCell.size l ≤ 4194304) : GSpec Tryz.prog 124 [AV.list 2 (l.map TCell.cs)] [] (fun x : Value × List Value => x.2.length = l.length) (fun x => .arr x.1 115 2 (nrows TCell.ocs l x.2) :: nin TCell.ow l x.2) (fun x => AV.is x.1) := by
 have hl : l.length ≤ 4194304 := Nat.le_trans O4 hs
 refine H3 Tryz.func124 rfl Tryz.ntmps124 rfl ?_
 refine A3 (A2 ?_)
 refine A1 rfl (B6 rfl L4) ?_
 refine A4 (A3 (A2 ?_))
 refine A5 rfl ?_
 refine H9 [] rfl rfl rfl rfl Tryz.call162 rfl (Ah7 _ (by first | assumption | omega)) (A6 (A0 rfl) C0) rfl ?_
 intro x6 ok6
 refine B3 rfl ?_
 refine A4 (A3 (A3 (A2 ?_)))
 refine A5 rfl ?_
 refine A1 rfl (W4 0 rfl F2 (A0 rfl) rfl) ?_
 refine A1 rfl (B8 rfl B4) ?_
 refine A4 (C7 ?_)
 refine P3 [(2, _), (3, _), (8, _)] [] (fun (i : Nat) (xs : List Value) => i ≤ l.length ∧ xs.length = i) (fun (i : Nat) (xs : List Value) => [.arr x6 115 2 (nrows TCell.ocs (l.take i) xs ++ (l.drop i).map TCell.cs)] ++ (nin TCell.ow (l.take i) xs)) (fun (i : Nat) (xs : List Value) => [(9, AV.int i)]) (fun (i : Nat) (xs : List Value) => l.length - i) (0) ([]) ?_ (O8 (by rfl) ⟨rfl, rfl, rfl, rfl, trivial⟩) ?_
 ·exact ⟨Nat.zero_le _, rfl⟩
 intro i xs hinv
 refine P2 (List.append_nil _) ?_
 refine A3 (A2 ?_)
 refine A1 rfl (J8 rfl (A0 rfl) (A0 rfl)) ?_
 refine A4 (A3 ?_)
 refine B9 (A0 rfl) ?_ ?_
 ·intro h10
  have k10 := of_decide_eq_true h10; try simp only [A8] at k10
  have hlt : i < l.length := by omega
  obtain ⟨x, hx⟩ := get_some hlt
  have hsx := j6 (Nat.le_trans (Y5 hx) hs)
  rw [drop_some hx, List.map_cons]
  refine C3 (A3 (C7 (A3 (A2 ?_))))
  refine A5 rfl ?_
  refine B3 rfl ?_
  refine A4 (A2 ?_)
  refine A5 rfl ?_
  refine A5 rfl ?_
  refine A5 rfl ?_
  refine A5 rfl ?_
  refine A1 rfl (U7 0 rfl F2 G5 (A0 rfl) rfl (A0 rfl) (by omega) (by rw [J6, I5, l6 (by rw [hinv.2, D9]; omega), D9]; omega)) ?_
  refine A1 rfl (AE7 0 rfl I1 rfl P9 (A0 rfl) rfl rfl (u3 (show (nrows TCell.ocs (l.take i) xs).length = i by rw [l6 (by rw [hinv.2, D9]; omega), D9]; omega))) ?_
  refine A1 rfl (AN0 0 rfl (A0 rfl) rfl S3 (u3 (show (nrows TCell.ocs (l.take i) xs).length = i by rw [l6 (by rw [hinv.2, D9]; omega), D9]; omega)) rfl) ?_
  refine H9 [] rfl rfl rfl rfl Tryz.call163 rfl (Ao6 _ (by first | assumption | omega)) (A6 (A0 rfl) C0) rfl ?_
  intro x19 ok19
  refine A1 rfl (U7 1 rfl F2 G5 (A0 rfl) rfl (A0 rfl) (by omega) (by rw [J6, I5, l6 (by rw [hinv.2, D9]; omega), D9]; omega)) ?_
  refine A1 rfl (AE7 1 rfl I1 rfl P9 (A0 rfl) rfl rfl (u3 (show (nrows TCell.ocs (l.take i) xs).length = i by rw [l6 (by rw [hinv.2, D9]; omega), D9]; omega))) ?_
  refine T8 0 rfl fun one_x19 => ?_
  refine AN1 1 rfl rfl rfl (A0 rfl) (A0 rfl) (U2 one_x19) rfl P9 (show (nrows TCell.ocs (l.take i) xs).length = i by rw [l6 (by rw [hinv.2, D9]; omega), D9]; omega) rfl ?_
  refine A4 ?_
  refine AWP.le (F8 [1, 0] rfl) ?_
  refine AWP.le (y9 1 (t := nin TCell.ow (l.take (i + 1)) (xs ++ [x19])) (At5 (ow := TCell.ow) (x := x19) hx hinv.2)) ?_
  refine A2 ?_
  refine A1 rfl (G0 rfl (A0 rfl) B4 (by first | omega | (simp only [C8, A7, szR] at *; omega))) ?_
  refine A5 rfl ?_
  refine A4 ?_
  refine O2 i xs (i + 1) (xs ++ [x19]) ?_ ?_ (O8 (Eq.trans (by exact congrArg (fun z => Own.arr _ _ _ z :: _) (BH5 hx hinv.2)) (List.append_nil _).symm) ⟨rfl, rfl, rfl, rfl, trivial⟩)
  ·exact ⟨by omega, by rw [J6, hinv.2]; rfl⟩
  omega
 intro h10
 have k10 := of_decide_eq_false h10; try simp only [A8] at k10
 have hge : i = l.length := by omega
 have hxs := hinv.2.trans hge
 rw [show l.take i = l from List.take_of_length_le (by omega), show l.drop i = [] from List.drop_eq_nil_of_le (by omega), List.map_nil, List.append_nil]
 refine G1 ?_
 refine A3 (A2 ?_)
 refine A5 rfl ?_
 refine B3 rfl ?_
 refine A4 ?_
 refine C2 ?_
 exact AW7 [0] 0 (nin TCell.ow l xs) [] (x6, xs) (hxs) rfl (show List.Perm (nin TCell.ow l xs) ((nin TCell.ow l xs) ++ []) from z6) (by rfl) (P0 rfl (C1 rfl (by first | rfl | (refine congrArg AV.bool ?_; simp_all; done))))
theorem Am3 (l : List TCell) (hs : sizeL TCell.size l ≤ 4194304) : GSpec Tryz.prog 182 [AV.list 2 (l.map TCell.cs)] [] (fun x : Value × List Value => x.2.length = l.length) (fun x => .arr x.1 115 2 (nrows TCell.ocs l x.2) :: nin TCell.ow l x.2) (fun x => AV.is x.1) := by
 have hl : l.length ≤ 4194304 := Nat.le_trans O4 hs
 refine H3 Tryz.func182 rfl Tryz.ntmps182 rfl ?_
 refine A3 (A2 ?_)
 refine A1 rfl (B6 rfl L4) ?_
 refine A4 (A3 (A2 ?_))
 refine S0 115 2 rfl rfl rfl rfl L4 ?_
 intro v3
 refine A4 (A3 (A3 (A2 ?_)))
 refine A5 rfl ?_
 refine A1 rfl (F6 rfl F2 (A0 rfl)) ?_
 refine A1 rfl (B8 rfl B4) ?_
 refine A4 (C7 ?_)
 refine d7 [(2, _), (6, _), (7, _)] [] (fun (i : Nat) (v : Value) (xs : List Value) => i ≤ l.length ∧ xs.length = i) (fun (i : Nat) (v : Value) (xs : List Value) => [.arr v 115 2 (nrows TCell.ocs (l.take i) xs)] ++ (nin TCell.ow (l.take i) xs)) (fun (i : Nat) (v : Value) (xs : List Value) => [(3, AV.is v), (8, AV.int i)]) (fun (i : Nat) (v : Value) (xs : List Value) => l.length - i) (0) (v3) ([]) ?_ (O8 (by rfl) ⟨rfl, rfl, rfl, rfl, rfl, trivial⟩) ?_
 ·exact ⟨Nat.zero_le _, rfl⟩
 intro i v xs hinv
 refine P2 (List.append_nil _) ?_
 refine A3 (A2 ?_)
 refine A1 rfl (J8 rfl (A0 rfl) (A0 rfl)) ?_
 refine A4 (A3 ?_)
 refine B9 (A0 rfl) ?_ ?_
 ·intro h9
  have k9 := of_decide_eq_true h9; try simp only [A8] at k9
  have hlt : i < l.length := by omega
  obtain ⟨x, hx⟩ := get_some hlt
  have hsx := j6 (Nat.le_trans (Y5 hx) hs)
  refine C3 (A3 (C7 (A3 (A2 ?_))))
  refine A1 rfl (I2 rfl F2 G5 (A0 rfl) (A0 rfl) hx (by first | omega | (simp only [C8, A7, szR] at *; omega))) ?_
  refine A1 rfl (K6 rfl (A0 rfl) U8 G5) ?_
  refine F5 rfl rfl rfl rfl Tryz.zeroValue115 rfl ?_
  intro b5
  refine D2 0 rfl rfl rfl (A0 rfl) (A0 rfl) (D6 _) rfl G5 rfl ?_
  refine A4 ?_
  refine V3 _ [(0, false), (1, false), (2, false), (4, false), (5, false), (3, true), (6, true), (7, false), (8, false), (9, true)] (by kernel_rfl) (by kernel_rfl) rfl (V2 1) ?_
  refine H7 rfl rfl rfl (fun ext => B8 rfl (A0 rfl)) ?_
  refine H7 rfl rfl rfl (fun ext => B1 0 rfl I1 rfl E3 (A0 rfl) rfl) ?_
  refine H7 rfl rfl rfl (fun ext => B0 0 rfl (A0 rfl) rfl G3 rfl) ?_
  refine H7 rfl rfl rfl (fun ext => B1 1 rfl I1 rfl P9 (A0 rfl) rfl) ?_
  refine H7 rfl rfl rfl (fun ext => B0 0 rfl (A0 rfl) rfl S3 rfl) ?_
  refine V4 rfl rfl rfl (AE2 2 <| Z6 rfl L3 N9) (fun a _ => (by first | exact E1 rfl | exact E1 (List.append_assoc _ _ _) | exact H6)) ?_
  intro v15 _
  refine V4 rfl rfl rfl (i9 2 (fun _ => rfl) (R5 (by' := 32) 2 rfl L3 Tryz.type117 rfl rfl rfl rfl rfl rfl (A0 rfl) (A0 rfl) rfl (by first | omega | (simp only [C8, A7, szR] at *; omega)))) (fun a _ => (by first | exact E1 rfl | exact E1 (List.append_assoc _ _ _) | exact H6)) ?_
  intro v18_1 hone_v18_1
  have one_v18_1 := hone_v18_1.2
  refine H7 rfl rfl rfl (fun ext => N5 (places := #[(0, 1), (1, 1)]) rfl I1 Tryz.zeroValue115 (fun w => by kernel_rfl) rfl (D0 (A0 rfl) (L7 _) (D0 (A0 rfl) (U2 one_v18_1) G9)) rfl) ?_
  refine H7 rfl rfl rfl (fun ext => K9 rfl F2 G5 Tryz.zeroValue115 rfl rfl rfl rfl (D0 (A0 rfl) (D6 _) G9) rfl rfl) ?_
  refine V4 rfl rfl rfl (R5 (by' := 40) 1 rfl F2 Tryz.type115 rfl rfl rfl rfl rfl rfl (A0 rfl) (A0 rfl) rfl (by rw [l6 (by rw [hinv.2, D9]; omega), A7, D9]; omega)) (fun a _ => (by first | exact E1 rfl | exact E1 (List.append_assoc _ _ _) | exact H6)) ?_
  intro v21_2 _
  refine l4 ?_
  refine B3 rfl ?_
  refine A4 ?_
  refine AWP.le (F8 [0, 0, 0] rfl) ?_
  refine AWP.le (y9 2 (t := nin TCell.ow (l.take (i + 1)) (xs ++ [v18_1])) (At5 (ow := TCell.ow) (x := v18_1) hx hinv.2)) ?_
  refine A2 ?_
  refine A1 rfl (G0 rfl (A0 rfl) B4 (by first | omega | (simp only [C8, A7, szR] at *; omega))) ?_
  refine A5 rfl ?_
  refine A4 ?_
  refine Z0 i v xs (i + 1) (v21_2) (xs ++ [v18_1]) ?_ ?_ (K0 1 (Eq.trans (by exact congrArg (fun z => Own.arr _ _ _ z :: _) (Ae3 hx hinv.2)) (List.append_nil _).symm) ⟨rfl, rfl, rfl, rfl, rfl, trivial⟩)
  ·exact ⟨by omega, by rw [J6, hinv.2]; rfl⟩
  omega
 intro h9
 have k9 := of_decide_eq_false h9; try simp only [A8] at k9
 have hge : i = l.length := by omega
 have hxs := hinv.2.trans hge
 rw [show l.take i = l from List.take_of_length_le (by omega)]
 refine G1 ?_
 refine A3 (A2 ?_)
 refine A5 rfl ?_
 refine B3 rfl ?_
 refine A4 ?_
 refine C2 ?_
 exact AW7 [0] 0 (nin TCell.ow l xs) [] (v, xs) (hxs) rfl (show List.Perm (nin TCell.ow l xs) ((nin TCell.ow l xs) ++ []) from z6) (by rfl) (P0 rfl (C1 rfl (by first | rfl | (refine congrArg AV.bool ?_; simp_all; done))))
end Go.Proofs.YtoaoicnnimjbeaaGreat

namespace Go.Proofs.YtoaoicnnimjbeaaGreat
open Go Go.AV Go.M
attribute [local irreducible] OpW OpA OpS AWP FSpec ESpec GSpec OpE RetOk RetOkG RvDen Le Ev GuardIs SrcIs
theorem AU3 {α : Type} {f : α → Nat} {l : List α} (i : Nat) : sizeL f (l.take i) ≤ sizeL f l := by
  have := o9 (f := f) (l := l.take i) (r := l.drop i)
  rw [List.take_append_drop] at this; omega
theorem q7 {α : Type} {f : α → Nat} {l : List α} {i : Nat} {x : α} (h : l[i]? = some x) : sizeL f (l.take (i + 1)) = sizeL f (l.take i) + (1 + f x) := by
  rw [List.take_add_one, h, o9]
  show _ + sizeL f [x] = _
  rw [N7]; rfl
def RowsTo (A : List (List AV)) (k : Str) (vs : List (List AV)) (B : List (List AV)) (D : List Own) (o2 : List TCell) (f : Value → List Value) : Prop :=
  ∀ y : Value, (f y).length = o2.length ∧ A ++ [AV.str k, AV.is y] :: B = nrows TCell.ocs o2 (f y) ∧ (Own.arr y 117 3 vs :: D).Perm (nin TCell.ow o2 (f y))
theorem BH6 {o : List TCell} {xs : List Value} {p : Nat} {c : TCell} {y0 : Value} (hc : o[p]? = some c) (hy : xs[p]? = some y0) (hl : xs.length = o.length) (nv : TVer) :
    RowsTo (nrows TCell.ocs (o.take p) (xs.take p)) c.Key (c.Vers.map TVer.cs ++ [TVer.cs nv]) (nrows TCell.ocs (o.drop (p + 1)) (xs.drop (p + 1))) (nin TCell.ow (o.eraseIdx p) (xs.eraseIdx p)) (o.set p ⟨c.Key, c.Vers ++ [nv]⟩) (fun y => xs.set p y) := fun y => by
  have hp := (List.getElem?_eq_some_iff.1 hc).1
  have hx := (List.getElem?_eq_some_iff.1 hy).1
  have hc' : (o.set p ⟨c.Key, c.Vers ++ [nv]⟩)[p]? = some ⟨c.Key, c.Vers ++ [nv]⟩ := List.getElem?_set_self hp
  have hy' : (xs.set p y)[p]? = some y := List.getElem?_set_self hx
  refine ⟨by rw [List.length_set, List.length_set, hl], ?_, ?_⟩
  · rw [AI1 hc' hy', List.take_set_of_le (Nat.le_refl _), List.take_set_of_le (Nat.le_refl _), List.drop_set_of_lt (by omega), List.drop_set_of_lt (by omega)]
    rfl
  · have h := AW8 (ow := TCell.ow) hc' hy'
    rw [List.eraseIdx_set_eq, List.eraseIdx_set_eq] at h
    refine List.Perm.trans ?_ h.symm
    unfold TCell.ow
    simp only [List.map_append, List.map_cons, List.map_nil]
    exact List.Perm.refl _
theorem BH7 {o : List TCell} {xs : List Value} {p : Nat} (hp : p ≤ o.length) (hl : xs.length = o.length) (k : Str) (nv : TVer) :
    RowsTo ((nrows TCell.ocs o xs).take p) k [TVer.cs nv] ((nrows TCell.ocs o xs).drop p) (nin TCell.ow o xs) (o.take p ++ ⟨k, [nv]⟩ :: o.drop p) (fun y => xs.take p ++ y :: xs.drop p) := fun y =>
  ⟨by rw [Av0 (by omega), Av0 hp, hl], BM8 (ocs := TCell.ocs) (p := ⟨k, [nv]⟩) hp hl, nin_ins (ow := TCell.ow) (p := ⟨k, [nv]⟩) hp hl⟩
theorem AO9 {l o : List TCell} {w : List TWrite} {t : Int} {i : Nat} {x : TWrite} (h : putAll l w t = putAll o (w.drop i) t) (hx : w[i]? = some x) (ht : ¬ t ≤ lastTime o x.Key) : putAll l w t = putAll (putC1 o x t) (w.drop (i + 1)) t := by
  rw [h, drop_some hx]
  unfold putAll
  rw [if_neg (by simpa using ht)]
  cases w.drop (i + 1) <;> rfl
theorem put_stop {l o : List TCell} {w : List TWrite} {t : Int} {i : Nat} {x : TWrite} (h : putAll l w t = putAll o (w.drop i) t) (hx : w[i]? = some x) (ht : t ≤ lastTime o x.Key) : putAll l w t = none := by
  rw [h, drop_some hx]
  unfold putAll
  rw [if_pos (by simpa using ht)]
theorem put_end {l o : List TCell} {w : List TWrite} {t : Int} {i : Nat} (h : putAll l w t = putAll o (w.drop i) t) (hi : w.length ≤ i) : putAll l w t = some o := by
  rw [h, List.drop_eq_nil_of_le hi]; rfl
end Go.Proofs.YtoaoicnnimjbeaaGreat

set_option maxHeartbeats 4000000
namespace Go.Proofs.YtoaoicnnimjbeaaGreat
open Go Go.AV Go.M
attribute [local irreducible] OpW OpA OpS AWP FSpec ESpec GSpec OpE RetOk RetOkG RvDen Le Ev GuardIs SrcIs
theorem BM9 (l : List TCell) (w : List TWrite) (t : Int) (ho : CellsOk l) (hs : sizeL TCell.size l ≤ 1048576) (hw : sizeL TWrite.size w ≤ 1048576) (ht1 : 1 ≤ t) : GSpec Tryz.prog 204 [AV.list 2 (l.map TCell.cs), AV.list 3 (w.map TWrite.cs), AV.int t] [] (fun x : Value × List Value => x.2.length = (putP l w t).1.length) (fun x => .arr x.1 115 2 (nrows TCell.ocs (putP l w t).1 x.2) :: nin TCell.ow (putP l w t).1 x.2) (fun x => AV.tup [AV.is x.1, AV.bool (putP l w t).2]) := by
 have hwl : w.length ≤ 1048576 := Nat.le_trans O4 hw
 refine H3 Tryz.func204 rfl Tryz.ntmps204 rfl ?_
 refine A3 (A2 ?_)
 refine A1 rfl (B6 rfl L4) ?_
 refine A1 rfl (B6 rfl E9) ?_
 refine A4 (A3 (A2 ?_))
 refine A5 rfl ?_
 refine BM0 [] 0 1 ([]) ([]) (fun zz => nin TCell.ow l zz.2) rfl rfl rfl rfl Tryz.call182 rfl rfl (show List.Perm ([]) (([]) ++ ([])) from List.Perm.refl _) (Am3 l (by omega)) (A6 (A0 rfl) C0) (fun a => perm_lin) ?_
 intro x15 ok15
 refine B3 rfl ?_
 refine A4 (A3 (A3 (A2 ?_)))
 refine A5 rfl ?_
 refine A1 rfl (F6 rfl D1 (A0 rfl)) ?_
 refine A1 rfl (B8 rfl B4) ?_
 refine A4 (C7 ?_)
 refine d8 [(2, _), (16, _), (17, _)] [] (fun (i : Nat) (v : Value) (q : List TCell) (xs : List Value) => i ≤ w.length ∧ xs.length = q.length ∧ CellsOk q ∧ sizeL TCell.size q ≤ 1048576 + 2 * sizeL TWrite.size (w.take i) ∧ putAll l w t = putAll q (w.drop i) t) (fun (i : Nat) (v : Value) (q : List TCell) (xs : List Value) => [.arr v 115 2 (nrows TCell.ocs q xs)] ++ (nin TCell.ow q xs)) (fun (i : Nat) (v : Value) (q : List TCell) (xs : List Value) => [(8, AV.is v), (18, AV.int i)]) (fun (i : Nat) (v : Value) (q : List TCell) (xs : List Value) => w.length - i) (0) (x15.1) (l) (x15.2) ?_ (O8 (by rw [List.append_nil]; rfl) ⟨rfl, rfl, rfl, rfl, rfl, trivial⟩) ?_
 ·exact ⟨Nat.zero_le _, ok15, ho, by omega, rfl⟩
 intro i v q xs hinv
 have hlen := hinv.2.1
 have hinvo := hinv
 have hrl : (nrows TCell.ocs q xs).length = q.length := l6 hlen
 refine P2 (List.append_nil _) ?_
 refine A3 (A2 ?_)
 refine A1 rfl (J8 rfl (A0 rfl) (A0 rfl)) ?_
 refine A4 (A3 ?_)
 refine B9 (A0 rfl) ?_ ?_
 ·intro h19
  have k19 := of_decide_eq_true h19; try simp only [A8] at k19
  have hlt : i < w.length := by omega
  obtain ⟨x, hx⟩ := get_some hlt
  have htk := AU3 (f := TWrite.size) (l := w) i
  have hso : sizeL TCell.size q ≤ 4194304 := by omega
  have hql : q.length ≤ 4194304 := Nat.le_trans O4 hso
  refine C3 (A3 (C7 (A3 (A2 ?_))))
  refine A1 rfl (I2 rfl D1 E5 (A0 rfl) (A0 rfl) hx (by first | omega | (simp only [C8, A7, szR] at *; omega))) ?_
  refine A1 rfl (K6 rfl (A0 rfl) P8 E5) ?_
  refine F5 rfl rfl rfl rfl Tryz.zeroValue79 rfl ?_
  intro b10
  refine D2 0 rfl rfl rfl (A0 rfl) (A0 rfl) (D6 _) rfl E5 rfl ?_
  refine A4 (A3 (A2 ?_))
  refine A5 rfl ?_
  refine A1 rfl (B1 1 rfl J3 rfl E3 (A0 rfl) rfl) ?_
  refine A1 rfl (B0 0 rfl (A0 rfl) rfl G3 rfl) ?_
  refine A1 rfl (B1 2 rfl J3 rfl N2 (A0 rfl) rfl) ?_
  refine A1 rfl (B0 0 rfl (A0 rfl) rfl O5 rfl) ?_
  refine A1 rfl (N5 (places := #[(0, 1), (1, 1), (2, 1)]) rfl Q9 Tryz.zeroValue117 (fun w => by kernel_rfl) rfl (D0 (A0 rfl) (L8 _ _) (D0 (A0 rfl) (L7 _) (D0 (A0 rfl) (f6 _) G9))) rfl) ?_
  refine F5 rfl rfl rfl rfl Tryz.zeroValue117 rfl ?_
  intro b11
  refine D2 0 rfl rfl rfl (A0 rfl) (A0 rfl) (D6 _) rfl N9 rfl ?_
  refine A4 (A3 (A2 ?_))
  refine A5 rfl ?_
  refine A1 rfl (W4 2 rfl F2 (A0 rfl) rfl) ?_
  refine B3 rfl ?_
  refine A4 (A3 (C7 ?_))
  refine J0 [(2, _), (8, _), (10, _), (11, _), (16, _), (17, _), (18, _), (19, _), (20, _), (21, _), (22, _), (23, _), (24, _), (25, _), (26, _), (27, _), (28, _), (29, _)] _ (fun (j : Nat) => j ≤ q.length ∧ ∀ (a : Nat) (c : TCell), j ≤ a → q[a]? = some c → Op.bytesLess x.Key c.Key = true) (fun (j : Nat) => []) (fun (j : Nat) => [(12, AV.int j)]) (fun (j : Nat) => j) (q.length) ?_ (K2 ⟨congrArg (fun z : Nat => some (AV.int z)) hrl, rfl, rfl, rfl, rfl, rfl, rfl, rfl, rfl, rfl, rfl, rfl, rfl, rfl, rfl, rfl, rfl, rfl, rfl, trivial⟩) ?_
  ·exact ⟨Nat.le_refl _, fun a c ha hc => by have := (List.getElem?_eq_some_iff.1 hc).1; omega⟩
  intro j hinv
  obtain ⟨c, hc0⟩ := y6 q (j - 1)
  obtain ⟨y, hy0⟩ : ∃ y, j - 1 < xs.length → xs[j - 1]? = some y := ⟨xs[j - 1]?.getD (.int .i64 0), fun h => by rw [List.getElem?_eq_getElem h]; rfl⟩
  have hj1 : 0 < j → ((j : Int) - 1).toNat = j - 1 := fun _ => by omega
  have hrow0 : 0 < j → (nrows TCell.ocs q xs)[((j : Int) - 1).toNat]? = some (TCell.ocs c y) := fun h => by rw [hj1 h]; exact Al3 (hc0 (by omega)) (hy0 (by omega))
  refine A3 (A3 ?_)
  refine L1 (by kernel_rfl) (by kernel_rfl) rfl ?_
  refine B2 rfl rfl (B8 rfl (A0 rfl)) ?_
  refine B2 rfl rfl (R8 rfl (A0 rfl) B4) ?_
  refine B2 rfl rfl (B8 rfl (A0 rfl)) ?_
  refine E0 rfl (I9 rfl rfl rfl) (fun hc => B8 rfl (A0 rfl)) ?_
  refine E0 rfl (I9 rfl rfl rfl) (fun hc => B8 rfl (A0 rfl)) ?_
  refine E0 rfl (I9 rfl rfl rfl) (fun hc => R7 rfl (A9 rfl hc) B4 (by first | omega | ((try simp only [C8, A7, szR] at *); omega) | (have hc2 := hc; simp only [Q0, beq_iff_eq, bne_iff_ne, A8, D9] at hc2; omega))) ?_
  refine E0 rfl (I9 rfl rfl rfl) (fun hc => U7 2 rfl F2 G5 (A9 rfl hc) rfl (A9 rfl hc) (by first | omega | ((try simp only [C8, A7, szR] at *); omega) | (have hc2 := hc; simp only [Q0, beq_iff_eq, bne_iff_ne, A8, D9] at hc2; omega)) (by first | omega | ((try simp only [C8, A7, szR] at *); omega) | (have hc2 := hc; simp only [Q0, beq_iff_eq, bne_iff_ne, A8, D9] at hc2; omega))) ?_
  refine E0 rfl (I9 rfl rfl rfl) (fun hc => AE7 2 rfl I1 rfl E3 (A9 rfl hc) rfl rfl (hrow0 (by first | omega | ((try simp only [C8, A7, szR] at *); omega) | (have hc2 := hc; simp only [Q0, beq_iff_eq, bne_iff_ne, A8, D9] at hc2; omega)))) ?_
  refine E0 rfl (I9 rfl rfl rfl) (fun hc => AN0 2 rfl (A9 rfl hc) rfl G3 (hrow0 (by first | omega | ((try simp only [C8, A7, szR] at *); omega) | (have hc2 := hc; simp only [Q0, beq_iff_eq, bne_iff_ne, A8, D9] at hc2; omega))) rfl) ?_
  refine E0 rfl (I9 rfl rfl rfl) (fun hc => B1 0 rfl J3 rfl E3 (A0 rfl) rfl) ?_
  refine E0 rfl (I9 rfl rfl rfl) (fun hc => B0 1 rfl (A9 rfl hc) rfl G3 rfl) ?_
  refine E0 rfl (I9 rfl rfl rfl) (fun hc => AR2 rfl (A9 rfl hc) (A9 rfl hc)) ?_
  refine B2 rfl rfl (J5 rfl (A0 rfl) (F7 rfl)) ?_
  refine P7 ?_
  refine B9 (A0 rfl) ?_ ?_
  ·intro h42
   have hgt : 0 < j ∧ Op.bytesLess x.Key c.Key = true := by rw [T4]; simpa using h42
   refine C3 (C7 (A2 ?_))
   refine A5 rfl ?_
   refine A1 rfl (R7 rfl (A0 rfl) B4 (by first | omega | (simp only [C8, A7, szR] at *; omega))) ?_
   refine B3 rfl ?_
   refine A4 ?_
   refine m3 ?_
   refine K4 j (j - 1) ?_ ?_ (K2 ⟨congrArg (fun z : Int => some (AV.int z)) (by omega), rfl, rfl, rfl, rfl, rfl, rfl, rfl, rfl, rfl, rfl, rfl, rfl, rfl, rfl, rfl, rfl, rfl, rfl, trivial⟩)
   ·exact ⟨by omega, fun a c' ha hc' => if h9 : j ≤ a then hinv.2 a c' h9 hc' else (by have e : a = j - 1 := (by omega); subst e; rw [hc0 (by omega)] at hc'; injection hc' with hc'; subst hc'; exact hgt.2)⟩
   omega
  intro h42
  have hng : 0 < j → Op.bytesLess x.Key c.Key = false := fun h => by rw [T4]; simpa [h] using h42
  refine G1 ?_
  refine A3 (A3 ?_)
  refine L1 (by kernel_rfl) (by kernel_rfl) rfl ?_
  refine B2 rfl rfl (B8 rfl (A0 rfl)) ?_
  refine B2 rfl rfl (R8 rfl (A0 rfl) B4) ?_
  refine B2 rfl rfl (B8 rfl (A0 rfl)) ?_
  refine E0 rfl (I9 rfl rfl rfl) (fun hc => B8 rfl (A0 rfl)) ?_
  refine E0 rfl (I9 rfl rfl rfl) (fun hc => B8 rfl (A0 rfl)) ?_
  refine E0 rfl (I9 rfl rfl rfl) (fun hc => R7 rfl (A9 rfl hc) B4 (by first | omega | ((try simp only [C8, A7, szR] at *); omega) | (have hc2 := hc; simp only [Q0, beq_iff_eq, bne_iff_ne, A8, D9] at hc2; omega))) ?_
  refine E0 rfl (I9 rfl rfl rfl) (fun hc => U7 2 rfl F2 G5 (A9 rfl hc) rfl (A9 rfl hc) (by first | omega | ((try simp only [C8, A7, szR] at *); omega) | (have hc2 := hc; simp only [Q0, beq_iff_eq, bne_iff_ne, A8, D9] at hc2; omega)) (by first | omega | ((try simp only [C8, A7, szR] at *); omega) | (have hc2 := hc; simp only [Q0, beq_iff_eq, bne_iff_ne, A8, D9] at hc2; omega))) ?_
  refine E0 rfl (I9 rfl rfl rfl) (fun hc => AE7 2 rfl I1 rfl E3 (A9 rfl hc) rfl rfl (hrow0 (by first | omega | ((try simp only [C8, A7, szR] at *); omega) | (have hc2 := hc; simp only [Q0, beq_iff_eq, bne_iff_ne, A8, D9] at hc2; omega)))) ?_
  refine E0 rfl (I9 rfl rfl rfl) (fun hc => AN0 2 rfl (A9 rfl hc) rfl G3 (hrow0 (by first | omega | ((try simp only [C8, A7, szR] at *); omega) | (have hc2 := hc; simp only [Q0, beq_iff_eq, bne_iff_ne, A8, D9] at hc2; omega))) rfl) ?_
  refine E0 rfl (I9 rfl rfl rfl) (fun hc => B1 0 rfl J3 rfl E3 (A0 rfl) rfl) ?_
  refine E0 rfl (I9 rfl rfl rfl) (fun hc => B0 1 rfl (A9 rfl hc) rfl G3 rfl) ?_
  refine E0 rfl (I9 rfl rfl rfl) (fun hc => u6 rfl (A9 rfl hc) (A9 rfl hc)) ?_
  refine B2 rfl rfl (J5 rfl (A0 rfl) (F7 rfl)) ?_
  refine P7 ?_
  refine B9 (A0 rfl) ?_ ?_
  ·intro h57
   have hf : 0 < j ∧ c.Key = x.Key := by simpa using h57
   have hc := hc0 (by omega)
   have hy := hy0 (by omega)
   have hins := scan_has hinvo.2.2.1.1 hc hf.2 ⟨t, x.Val, x.Gone⟩
   refine A3 (A3 (A2 ?_))
   refine A5 rfl ?_
   refine A1 rfl (B1 0 rfl J3 rfl E3 (A0 rfl) rfl) ?_
   refine A1 rfl (B0 1 rfl (A0 rfl) rfl G3 rfl) ?_
   refine A1 rfl (j8 rfl Tryz.call119 rfl (AI6 q x.Key hinvo.2.2.1 hso) (G7 _ _) (U9 (AJ8 (A0 rfl) (AF2 TCell.lcM (by first | exact hlen | exact hlen.trans (AN8 _ _).symm) 2 rfl (fun o ho => List.mem_of_mem_drop (i := 3) (show o ∈ nin TCell.ow q xs from by first | exact ho | exact List.mem_append_left _ ho | exact List.mem_append_right _ ho | exact List.mem_append_right _ (List.mem_append_left _ ho) | exact List.mem_append_right _ (List.mem_append_right _ ho))))) (U9 (evb (A0 rfl)) Z8))) ?_
   refine A5 rfl ?_
   refine A1 rfl (f5 rfl (A0 rfl) (A0 rfl)) ?_
   refine A4 ?_
   refine B9 (A0 rfl) ?_ ?_
   ·intro h63
    have k63 := of_decide_eq_true h63; try simp only [A8] at k63
    have he : putP l w t = ([], false) := by unfold putP; rw [put_stop hinvo.2.2.2.2 hx k63]
    rw [he]
    refine A3 (A2 ?_)
    refine A1 rfl (B6 rfl L4) ?_
    refine A1 rfl (B6 rfl E9) ?_
    refine A4 ?_
    refine C2 ?_
    refine Y4 115 2 ?_
    first | exact L5 [0] ((Value.slice none 0 0), []) (rfl) rfl (by rfl) (V5 rfl (by decide) (E7 (C1 rfl (by rfl)) (E7 (C1 rfl (by rfl)) M0))) | exact AW7 [0] 3 (nin TCell.ow q xs) [] ((Value.slice none 0 0), []) (rfl) rfl (show List.Perm (nin TCell.ow q xs) ((nin TCell.ow q xs) ++ []) from z6) (by rfl) (V5 rfl (by decide) (E7 (C1 rfl (by rfl)) (E7 (C1 rfl (by rfl)) M0))) | exact L5 [0] ((Value.slice none 0 0), xs) (hinv.2.1) rfl (by rfl) (V5 rfl (by decide) (E7 (C1 rfl (by rfl)) (E7 (C1 rfl (by rfl)) M0))) | exact AW7 [0] 3 (nin TCell.ow q xs) [] ((Value.slice none 0 0), xs) (hinv.2.1) rfl (show List.Perm (nin TCell.ow q xs) ((nin TCell.ow q xs) ++ []) from z6) (by rfl) (V5 rfl (by decide) (E7 (C1 rfl (by rfl)) (E7 (C1 rfl (by rfl)) M0)))
   intro h63
   have k63 := of_decide_eq_false h63; try simp only [A8] at k63
   have hnt : ¬ t ≤ lastTime q x.Key := k63
   have hpo := (List.getElem?_eq_some_iff.1 hc).1
   have hA : (nrows TCell.ocs (q.take (j - 1)) (xs.take (j - 1))).length = ((j : Int) - 1).toNat := (BG2 (ocs := TCell.ocs) hc hy).trans (hj1 hf.1).symm
   obtain ⟨fx, hto⟩ : ∃ fx, RowsTo (nrows TCell.ocs (q.take (j - 1)) (xs.take (j - 1))) c.Key (c.Vers.map TVer.cs ++ [TVer.cs ⟨t, x.Val, x.Gone⟩]) (nrows TCell.ocs (q.drop (j - 1 + 1)) (xs.drop (j - 1 + 1))) (nin TCell.ow (q.eraseIdx (j - 1)) (xs.eraseIdx (j - 1))) (putC1 q x t) fx := ⟨_, by have h7 := BH6 hc hy hlen ⟨t, x.Val, x.Gone⟩; unfold putC1; rw [hins]; rw [hf.2] at h7 ⊢; exact h7⟩
   have hcs := j6 (Nat.le_trans (Y5 hc) hso)
   rw [AI1 hc hy]
   refine AWP.le (y9 3 (t := (TCell.ow c y) ++ (nin TCell.ow (q.eraseIdx (j - 1)) (xs.eraseIdx (j - 1)))) (AW8 (ow := TCell.ow) hc hy)) ?_
   refine C3 (A3 ?_)
   refine AWP.le (F8 [0, 1, 1] rfl) ?_
   refine V3 _ [(0, false), (1, false), (2, false), (3, false), (4, false), (5, false), (6, false), (7, false), (8, false), (9, false), (10, false), (11, true)] (by kernel_rfl) (by kernel_rfl) rfl (V2 2) ?_
   refine H7 rfl rfl rfl (fun ext => B8 rfl (A0 rfl)) ?_
   refine H7 rfl rfl rfl (fun ext => B8 rfl (A0 rfl)) ?_
   refine H7 rfl rfl rfl (fun ext => R7 rfl (A0 rfl) B4 (by first | omega | (simp only [C8, A7, szR] at *; omega))) ?_
   refine H7 rfl rfl rfl (fun ext => B8 rfl (A0 rfl)) ?_
   refine H7 rfl rfl rfl (fun ext => B8 rfl (A0 rfl)) ?_
   refine H7 rfl rfl rfl (fun ext => R7 rfl (A0 rfl) B4 (by first | omega | (simp only [C8, A7, szR] at *; omega))) ?_
   refine H7 rfl rfl rfl (fun ext => U7 1 rfl F2 G5 (A0 rfl) rfl (A0 rfl) (by omega) (by rw [J6, I5]; omega)) ?_
   refine H7 rfl rfl rfl (fun ext => AE7 1 rfl I1 rfl P9 (A0 rfl) rfl rfl (u3 hA)) ?_
   refine H7 rfl rfl rfl (fun ext => AN0 1 rfl (A0 rfl) rfl S3 (u3 hA) rfl) ?_
   refine H7 rfl rfl rfl (fun ext => F1 0 rfl (A0 rfl) rfl Y8 N9 rfl) ?_
   refine H7 rfl rfl rfl (fun ext => K9 rfl L3 N9 Tryz.zeroValue117 rfl rfl rfl rfl (D0 (A0 rfl) (D6 _) G9) rfl rfl) ?_
   refine V4 rfl rfl rfl (R5 (by' := 32) 2 rfl L3 Tryz.type117 rfl rfl rfl rfl rfl rfl (A0 rfl) (A0 rfl) rfl (by first | omega | (simp only [C8, A7, szR] at *; omega))) (fun a _ => (by first | exact E1 rfl | exact E1 (List.append_assoc _ _ _) | exact H6)) ?_
   intro v75_2 _
   refine l4 ?_
   refine A1 rfl (U7 1 rfl F2 G5 (A0 rfl) rfl (A0 rfl) (by omega) (by rw [J6, I5]; omega)) ?_
   refine A1 rfl (AE7 1 rfl I1 rfl P9 (A0 rfl) rfl rfl (u3 hA)) ?_
   refine T8 2 rfl fun one_v75_2 => ?_
   refine AN1 1 rfl rfl rfl (A0 rfl) (A0 rfl) (U2 one_v75_2) rfl P9 hA rfl ?_
   refine A4 ?_
   refine G1 ?_
   refine P2 (by first | (simp only [List.singleton_append, pick, U0, T6, T2, S4, S2, List.nil_append, U1, T7, List.append_nil, S5, List.take_zero, S8, List.drop_zero]; exact rfl) | exact rfl) ?_
   refine AWP.le (F8 [0, 0, 1, 0] rfl) ?_
   refine AWP.le (y9 3 (t := nin TCell.ow (putC1 q x t) (fx v75_2)) ((hto v75_2).2.2)) ?_
   refine A2 ?_
   refine A1 rfl (G0 rfl (A0 rfl) B4 (by first | omega | (simp only [C8, A7, szR] at *; omega))) ?_
   refine A5 rfl ?_
   refine A4 ?_
   refine V9 i v q xs (i + 1) (v) (putC1 q x t) (fx v75_2) ?_ ?_ (Le.trans (F8 [0, 1, 0] rfl) (K0 2 (Eq.trans (by first | exact congrArg (fun z => Own.arr _ _ _ z :: _) (hto v75_2).2.1 | exact congrArg (fun z => Own.arr _ _ _ z :: _) (by first | (rw [List.nil_append, List.append_assoc]; exact (hto v75_2).2.1) | (rw [List.append_assoc]; exact (hto v75_2).2.1))) (List.append_nil _).symm) ⟨rfl, rfl, rfl, rfl, rfl, trivial⟩))
   ·exact ⟨by omega, (hto _).1, r5 hinvo.2.2.1 _ _, by have h8 := v8 q x t; have h9 := q7 (f := TWrite.size) hx; omega, AO9 hinvo.2.2.2.2 hx hnt⟩
   omega
  intro h57
  have hnf : 0 < j → c.Key ≠ x.Key := fun h => by simpa [h] using h57
  obtain ⟨hins, hl0⟩ := scan_new hinvo.2.2.1.1 hinv.1 hinv.2 (fun z hz hzz => by rw [hc0 (by omega)] at hzz; injection hzz with hzz; subst hzz; rw [T4, hng hz]; simpa using fun e => hnf hz e.symm) ⟨t, x.Val, x.Gone⟩
  have hnt : ¬ t ≤ lastTime q x.Key := by rw [hl0]; omega
  obtain ⟨fx, hto⟩ : ∃ fx, RowsTo ((nrows TCell.ocs q xs).take j) x.Key [TVer.cs ⟨t, x.Val, x.Gone⟩] ((nrows TCell.ocs q xs).drop j) (nin TCell.ow q xs) (putC1 q x t) fx := ⟨_, by unfold putC1; rw [hins]; exact BH7 hinv.1 hlen _ _⟩
  refine C3 (A3 ?_)
  refine AWP.le (X6 [2] 8 rfl rfl (M8 (F9 (i := 0) rfl) I7) O3) ?_
  refine A2 ?_
  refine U6 rfl rfl rfl rfl F2 G5 ?_
  intro v78
  refine A5 rfl ?_
  refine A5 rfl ?_
  refine A1 rfl (As2 rfl F2 G5 (A0 rfl) (A0 rfl) (by omega) (by rw [hrl]; omega)) ?_
  refine L2 (by' := 40) 0 rfl rfl rfl rfl F2 Tryz.type115 rfl rfl rfl rfl rfl rfl (A0 rfl) (A0 rfl) rfl (by simp only [N4, List.nil_append, J6, D9, List.length_drop, I5, A7, hrl]; omega) ?_
  intro v82_3
  refine B3 rfl ?_
  refine A4 ?_
  refine AWP.le (X6 [0] 13 rfl rfl (M8 (F9 (i := 0) rfl) I7) O3) ?_
  refine AWP.le (F8 [0, 0] rfl) ?_
  refine Q2 _ 14 (.pure 1 (.pure 2 (.pure 3 (.pure 5 (.pure 6 (.pure 7 (.pure 12 (.e2 0 (.e2 4 (.e1 8 (.pure 9 (.pure 10 (.e1 11 (.e1 13 .nil))))) 8 (.pure 9 (.pure 10 (.e1 4 (.e1 11 (.e1 13 .nil)))))) 8 (.pure 9 (.pure 10 (.e1 0 (.e1 4 (.e1 11 (.e1 13 .nil)))))))))))))) (by kernel_rfl) (by kernel_rfl) rfl (V2 2) ?_
  refine D4 rfl rfl rfl (fun ext => B8 rfl (A0 rfl)) ?_
  refine D4 rfl rfl rfl (fun ext => B8 rfl (A0 rfl)) ?_
  refine D4 rfl rfl rfl (fun ext => As1 rfl F2 G5 (A0 rfl) (A0 rfl) (by omega) (by rw [hrl]; omega)) ?_
  refine D4 rfl rfl rfl (fun ext => B1 0 rfl J3 rfl E3 (A0 rfl) rfl) ?_
  refine D4 rfl rfl rfl (fun ext => B0 1 rfl (A0 rfl) rfl G3 rfl) ?_
  refine D4 rfl rfl rfl (fun ext => F1 0 rfl (A0 rfl) rfl Y8 N9 rfl) ?_
  refine D4 rfl rfl rfl (fun ext => B8 rfl (A0 rfl)) ?_
  refine AD3 ?_ ?_
  ·refine S6 rfl rfl rfl (AE2 2 <| Z6 rfl F2 G5) (fun a _ => (by first | exact E1 rfl | exact E1 (List.append_assoc _ _ _) | exact H6)) ?_
   intro v83 _
   refine AD3 ?_ ?_
   ·refine S6 rfl rfl rfl (R5 (by' := 40) 2 rfl F2 Tryz.type115 rfl rfl rfl rfl rfl rfl (A0 rfl) (A0 rfl) rfl (by simp only [N4, List.nil_append, J6, D9, List.length_drop, I5, A7, hrl]; omega)) (fun a _ => (by first | exact E1 rfl | exact E1 (List.append_assoc _ _ _) | exact H6)) ?_
    intro v87_4 _
    refine T9 ?_
    refine S6 rfl rfl rfl (i9 3 (fun _ => rfl) (AE2 3 <| AN3 rfl L3 N9 Tryz.zeroValue117 rfl rfl rfl rfl (D0 (A0 rfl) (D6 _) G9) rfl rfl)) (fun a _ => (by first | exact E1 rfl | exact E1 (List.append_assoc _ _ _) | exact H6)) ?_
    intro v91 hone_v91
    have one_v91 := hone_v91.2
    refine D4 rfl rfl rfl (fun ext => N5 (places := #[(0, 1), (1, 1)]) rfl I1 Tryz.zeroValue115 (fun w => by kernel_rfl) rfl (D0 (A0 rfl) (L7 _) (D0 (A0 rfl) (U2 one_v91) G9)) rfl) ?_
    refine D4 rfl rfl rfl (fun ext => K9 rfl F2 G5 Tryz.zeroValue115 rfl rfl rfl rfl (D0 (A0 rfl) (D6 _) G9) rfl rfl) ?_
    refine T9 ?_
    refine S6 rfl rfl rfl (R5 (by' := 40) 2 rfl F2 Tryz.type115 rfl rfl rfl rfl rfl rfl (A0 rfl) (A0 rfl) rfl (by simp only [N4, List.nil_append, J6, D9, List.length_drop, I5, A7, hrl]; omega)) (fun a _ => (by first | exact E1 rfl | exact E1 (List.append_assoc _ _ _) | exact H6)) ?_
    intro v94_5 _
    refine T9 ?_
    refine S6 rfl rfl rfl (R5 (by' := 40) 2 rfl F2 Tryz.type115 rfl rfl rfl rfl rfl rfl (A0 rfl) (A0 rfl) rfl (by simp only [N4, List.nil_append, J6, D9, List.length_drop, I5, A7, hrl]; omega)) (fun a _ => (by first | exact E1 rfl | exact E1 (List.append_assoc _ _ _) | exact H6)) ?_
    intro v96_6 _
    refine W1 ?_
    refine B3 rfl ?_
    refine A4 ?_
    refine P2 (by first | (simp only [List.singleton_append, pick, U0, T6, T2, S4, S2, List.nil_append, U1, T7, List.append_nil, S5, List.take_zero, S8, List.drop_zero]; exact rfl) | exact rfl) ?_
    refine AWP.le (F8 [0, 0, 0, 0] rfl) ?_
    refine AWP.le (y9 3 (t := nin TCell.ow (putC1 q x t) (fx v91)) ((hto v91).2.2)) ?_
    refine A2 ?_
    refine A1 rfl (G0 rfl (A0 rfl) B4 (by first | omega | (simp only [C8, A7, szR] at *; omega))) ?_
    refine A5 rfl ?_
    refine A4 ?_
    refine V9 i v q xs (i + 1) (v96_6) (putC1 q x t) (fx v91) ?_ ?_ (Le.trans (F8 [0, 0, 0] rfl) (K0 2 (Eq.trans (by first | exact congrArg (fun z => Own.arr _ _ _ z :: _) (hto v91).2.1 | exact congrArg (fun z => Own.arr _ _ _ z :: _) (by first | (rw [List.nil_append, List.append_assoc]; exact (hto v91).2.1) | (rw [List.append_assoc]; exact (hto v91).2.1))) (List.append_nil _).symm) ⟨rfl, rfl, rfl, rfl, rfl, trivial⟩))
    ·exact ⟨by omega, (hto _).1, r5 hinvo.2.2.1 _ _, by have h8 := v8 q x t; have h9 := q7 (f := TWrite.size) hx; omega, AO9 hinvo.2.2.2.2 hx hnt⟩
    omega
   refine S6 rfl rfl rfl (i9 3 (fun _ => rfl) (AE2 3 <| AN3 rfl L3 N9 Tryz.zeroValue117 rfl rfl rfl rfl (D0 (A0 rfl) (D6 _) G9) rfl rfl)) (fun a _ => (by first | exact E1 rfl | exact E1 (List.append_assoc _ _ _) | exact H6)) ?_
   intro v91 hone_v91
   have one_v91 := hone_v91.2
   refine D4 rfl rfl rfl (fun ext => N5 (places := #[(0, 1), (1, 1)]) rfl I1 Tryz.zeroValue115 (fun w => by kernel_rfl) rfl (D0 (A0 rfl) (L7 _) (D0 (A0 rfl) (U2 one_v91) G9)) rfl) ?_
   refine D4 rfl rfl rfl (fun ext => K9 rfl F2 G5 Tryz.zeroValue115 rfl rfl rfl rfl (D0 (A0 rfl) (D6 _) G9) rfl rfl) ?_
   refine T9 ?_
   refine S6 rfl rfl rfl (R5 (by' := 40) 2 rfl F2 Tryz.type115 rfl rfl rfl rfl rfl rfl (A0 rfl) (A0 rfl) rfl (by simp only [N4, List.nil_append, J6, D9, List.length_drop, I5, A7, hrl]; omega)) (fun a _ => (by first | exact E1 rfl | exact E1 (List.append_assoc _ _ _) | exact H6)) ?_
   intro v87_7 _
   refine T9 ?_
   refine S6 rfl rfl rfl (R5 (by' := 40) 2 rfl F2 Tryz.type115 rfl rfl rfl rfl rfl rfl (A0 rfl) (A0 rfl) rfl (by simp only [N4, List.nil_append, J6, D9, List.length_drop, I5, A7, hrl]; omega)) (fun a _ => (by first | exact E1 rfl | exact E1 (List.append_assoc _ _ _) | exact H6)) ?_
   intro v94_8 _
   refine T9 ?_
   refine S6 rfl rfl rfl (R5 (by' := 40) 2 rfl F2 Tryz.type115 rfl rfl rfl rfl rfl rfl (A0 rfl) (A0 rfl) rfl (by simp only [N4, List.nil_append, J6, D9, List.length_drop, I5, A7, hrl]; omega)) (fun a _ => (by first | exact E1 rfl | exact E1 (List.append_assoc _ _ _) | exact H6)) ?_
   intro v96_9 _
   refine W1 ?_
   refine B3 rfl ?_
   refine A4 ?_
   refine P2 (by first | (simp only [List.singleton_append, pick, U0, T6, T2, S4, S2, List.nil_append, U1, T7, List.append_nil, S5, List.take_zero, S8, List.drop_zero]; exact rfl) | exact rfl) ?_
   refine AWP.le (F8 [0, 0, 0, 0] rfl) ?_
   refine AWP.le (y9 3 (t := nin TCell.ow (putC1 q x t) (fx v91)) ((hto v91).2.2)) ?_
   refine A2 ?_
   refine A1 rfl (G0 rfl (A0 rfl) B4 (by first | omega | (simp only [C8, A7, szR] at *; omega))) ?_
   refine A5 rfl ?_
   refine A4 ?_
   refine V9 i v q xs (i + 1) (v96_9) (putC1 q x t) (fx v91) ?_ ?_ (Le.trans (F8 [0, 0, 0] rfl) (K0 2 (Eq.trans (by first | exact congrArg (fun z => Own.arr _ _ _ z :: _) (hto v91).2.1 | exact congrArg (fun z => Own.arr _ _ _ z :: _) (by first | (rw [List.nil_append, List.append_assoc]; exact (hto v91).2.1) | (rw [List.append_assoc]; exact (hto v91).2.1))) (List.append_nil _).symm) ⟨rfl, rfl, rfl, rfl, rfl, trivial⟩))
   ·exact ⟨by omega, (hto _).1, r5 hinvo.2.2.1 _ _, by have h8 := v8 q x t; have h9 := q7 (f := TWrite.size) hx; omega, AO9 hinvo.2.2.2.2 hx hnt⟩
   omega
  refine S6 rfl rfl rfl (i9 2 (fun _ => rfl) (AE2 2 <| AN3 rfl L3 N9 Tryz.zeroValue117 rfl rfl rfl rfl (D0 (A0 rfl) (D6 _) G9) rfl rfl)) (fun a _ => (by first | exact E1 rfl | exact E1 (List.append_assoc _ _ _) | exact H6)) ?_
  intro v91 hone_v91
  have one_v91 := hone_v91.2
  refine D4 rfl rfl rfl (fun ext => N5 (places := #[(0, 1), (1, 1)]) rfl I1 Tryz.zeroValue115 (fun w => by kernel_rfl) rfl (D0 (A0 rfl) (L7 _) (D0 (A0 rfl) (U2 one_v91) G9)) rfl) ?_
  refine D4 rfl rfl rfl (fun ext => K9 rfl F2 G5 Tryz.zeroValue115 rfl rfl rfl rfl (D0 (A0 rfl) (D6 _) G9) rfl rfl) ?_
  refine T9 ?_
  refine S6 rfl rfl rfl (AE2 3 <| Z6 rfl F2 G5) (fun a _ => (by first | exact E1 rfl | exact E1 (List.append_assoc _ _ _) | exact H6)) ?_
  intro v83 _
  refine T9 ?_
  refine S6 rfl rfl rfl (R5 (by' := 40) 3 rfl F2 Tryz.type115 rfl rfl rfl rfl rfl rfl (A0 rfl) (A0 rfl) rfl (by simp only [N4, List.nil_append, J6, D9, List.length_drop, I5, A7, hrl]; omega)) (fun a _ => (by first | exact E1 rfl | exact E1 (List.append_assoc _ _ _) | exact H6)) ?_
  intro v87_10 _
  refine T9 ?_
  refine S6 rfl rfl rfl (R5 (by' := 40) 3 rfl F2 Tryz.type115 rfl rfl rfl rfl rfl rfl (A0 rfl) (A0 rfl) rfl (by simp only [N4, List.nil_append, J6, D9, List.length_drop, I5, A7, hrl]; omega)) (fun a _ => (by first | exact E1 rfl | exact E1 (List.append_assoc _ _ _) | exact H6)) ?_
  intro v94_11 _
  refine T9 ?_
  refine S6 rfl rfl rfl (R5 (by' := 40) 3 rfl F2 Tryz.type115 rfl rfl rfl rfl rfl rfl (A0 rfl) (A0 rfl) rfl (by simp only [N4, List.nil_append, J6, D9, List.length_drop, I5, A7, hrl]; omega)) (fun a _ => (by first | exact E1 rfl | exact E1 (List.append_assoc _ _ _) | exact H6)) ?_
  intro v96_12 _
  refine W1 ?_
  refine B3 rfl ?_
  refine A4 ?_
  refine P2 (by first | (simp only [List.singleton_append, pick, U0, T6, T2, S4, S2, List.nil_append, U1, T7, List.append_nil, S5, List.take_zero, S8, List.drop_zero]; exact rfl) | exact rfl) ?_
  refine AWP.le (F8 [0, 0, 1, 0] rfl) ?_
  refine AWP.le (y9 3 (t := nin TCell.ow (putC1 q x t) (fx v91)) ((hto v91).2.2)) ?_
  refine A2 ?_
  refine A1 rfl (G0 rfl (A0 rfl) B4 (by first | omega | (simp only [C8, A7, szR] at *; omega))) ?_
  refine A5 rfl ?_
  refine A4 ?_
  refine V9 i v q xs (i + 1) (v96_12) (putC1 q x t) (fx v91) ?_ ?_ (Le.trans (F8 [0, 0, 0] rfl) (K0 2 (Eq.trans (by first | exact congrArg (fun z => Own.arr _ _ _ z :: _) (hto v91).2.1 | exact congrArg (fun z => Own.arr _ _ _ z :: _) (by first | (rw [List.nil_append, List.append_assoc]; exact (hto v91).2.1) | (rw [List.append_assoc]; exact (hto v91).2.1))) (List.append_nil _).symm) ⟨rfl, rfl, rfl, rfl, rfl, trivial⟩))
  ·exact ⟨by omega, (hto _).1, r5 hinvo.2.2.1 _ _, by have h8 := v8 q x t; have h9 := q7 (f := TWrite.size) hx; omega, AO9 hinvo.2.2.2.2 hx hnt⟩
  omega
 intro h19
 have k19 := of_decide_eq_false h19; try simp only [A8] at k19
 have hge : w.length ≤ i := by omega
 have hpe := put_end hinv.2.2.2.2 hge
 have htk := AU3 (f := TWrite.size) (l := w) i
 have hso : sizeL TCell.size q ≤ 4194304 := by omega
 have he : putP l w t = (q, l3Good q) := by unfold putP; rw [hpe]
 rw [he]
 refine G1 ?_
 refine A3 (A2 ?_)
 refine A5 rfl ?_
 refine A5 rfl ?_
 refine A1 rfl (j8 rfl Tryz.call117 rfl (AY5 q hso) (H2 _) (U9 (AJ8 (A0 rfl) (AF2 TCell.lcM (by first | exact hlen | exact hlen.trans (AN8 _ _).symm) 0 rfl (fun o ho => List.mem_of_mem_drop (i := 1) (show o ∈ nin TCell.ow q xs from by first | exact ho | exact List.mem_append_left _ ho | exact List.mem_append_right _ ho | exact List.mem_append_right _ (List.mem_append_left _ ho) | exact List.mem_append_right _ (List.mem_append_right _ ho))))) Z8)) ?_
 refine B3 rfl ?_
 refine B3 rfl ?_
 refine A4 ?_
 refine C2 ?_
 first | exact L5 [0] (v, []) (rfl) rfl (by rfl) (V5 rfl (by decide) (E7 (C1 rfl (by rfl)) (E7 (C1 rfl (by rfl)) M0))) | exact AW7 [0] 0 (nin TCell.ow q xs) [] (v, []) (rfl) rfl (show List.Perm (nin TCell.ow q xs) ((nin TCell.ow q xs) ++ []) from z6) (by rfl) (V5 rfl (by decide) (E7 (C1 rfl (by rfl)) (E7 (C1 rfl (by rfl)) M0))) | exact AW7 [0] 0 (nin TCell.ow q xs) [] (v, xs) (hinv.2.1) rfl (show List.Perm (nin TCell.ow q xs) ((nin TCell.ow q xs) ++ []) from z6) (by rfl) (V5 rfl (by decide) (E7 (C1 rfl (by rfl)) (E7 (C1 rfl (by rfl)) M0)))
end Go.Proofs.YtoaoicnnimjbeaaGreat

namespace Go.AV
section
variable {P : Program} {G : Nat → Prop} {n : Nat} {own : List Own} {env : List (Nat × AV)} {fn : Func}
theorem AU4 {sel : List Own} {cs : List AV} {sz : Nat} (j : Nat) (h : cs[j]? = some AV.nils) : LendC sel cs (cs.set j (AV.list sz [])) := ⟨by rw [List.length_set], fun i x y hx hy => by
  by_cases e : j = i
  · subst e
    rw [List.getElem?_set_self (List.getElem?_eq_some_iff.1 h).1] at hy
    rw [h] at hx
    injection hx with hx; injection hy with hy; subst hx; subst hy
    exact AW4
  · rw [List.getElem?_set_ne e, hx] at hy
    injection hy with hy; subst hy; exact M4⟩
theorem Ab4 {E : EnvF} {q : Operand} {v : Value} {e : TypeId} {sz : Nat} {es : List (List AV)} (i : Nat) (hi : own[i]? = some (.arr v e sz es)) (hq : Ev E q (AV.is v)) : SrcE own E q sz es := fun G w0 R0 R a w hc he => by
  have e1 : a.eval q = _ := hq R a he
  have hok := hc.owned _ (F9 hi)
  have hu := hok.2.1
  refine ⟨hu, ?_⟩
  obtain ⟨_, _, xs0, hown0, _⟩ := hok
  rcases hown0.2 with ⟨h1, h2⟩ | ⟨g, cap, cur0, h1, _⟩
  · subst h1
    have h3 : es = [] := List.eq_nil_of_length_eq_zero h2
    subst h3
    exact ⟨none, 0, [], e1, fun h => absurd rfl h⟩
  · subst h1
    by_cases hne : es = []
    · subst hne; exact ⟨_, cap, [], e1, fun h => absurd rfl h⟩
    · have hsrc := AE8 (own := own) (E := E) (q := q) i hi hq
      obtain ⟨_, h7⟩ := hsrc G w0 R0 R a w hc he
      obtain ⟨ad, c, vs, k1, k2, k3⟩ := h7 hne
      exact ⟨_, c, vs, k1, fun _ => ⟨ad, rfl, k2, k3⟩⟩
theorem AU5 {o : Oper} {ops : Array Oper} {E : EnvF} {α : Type} {ok : α → Prop} {W' : α → List Own} {V : α → AV} {sel rest : α → List Own} {Y : α → AV} (is : List Nat) (hp : ∀ a, pick (W' a) is = (sel a, rest a)) (hl : ∀ a, LendTo (sel a) (V a) (Y a)) (hG : ∀ a b, G b → b ∈ (rest a).filterMap Own.blk)
    (h : OpE P G n own ops o E ok W' V) : OpE P G n own ops o E ok rest Y := fun w0 R0 R a w h1 h2 h3 =>
  Oper.wp_mono2 (fun a' w' ⟨x, v, R', e0, e1, e2, e3, e4⟩ =>
    have hk := m9 e2 (hp x)
    ⟨x, v, lend (sel x) w' R', e0, e1, AO4 hk (hG x), e3.trans (f9 (W9 hk)), hl x G w0 R0 R' w' v (W9 hk) e4⟩) (fun _ _ _ h => h) (h w0 R0 R a w h1 h2 h3)
theorem BH8 (i j sz : Nat) {b : Nat} {t : TypeId} {cs : List AV} (hi : own[i]? = some (.box b t cs)) (hj : cs[j]? = some AV.nils) (hG : ∀ b, G b → b ∈ own.filterMap Own.blk) : Le G n ⟨own, env⟩ ⟨own.set i (.box b t (cs.set j (AV.list sz []))), env⟩ :=
  i0 [] i (.box b t (cs.set j (AV.list sz []))) rfl hi ⟨rfl, rfl, AU4 j hj⟩ hG
theorem Q7 {α : Type} {ok : α → Prop} {O : α → List Own} {V : α → AV} (i j sz : Nat) {b : Nat} {t : TypeId} {cs : List AV} (hi : own[i]? = some (.box b t cs)) (hj : cs[j]? = some AV.nils) (hG : ∀ b, G b → b ∈ own.filterMap Own.blk)
    (k : RetOkG P G n fn ⟨own.set i (.box b t (cs.set j (AV.list sz []))), env⟩ ok O V) : RetOkG P G n fn ⟨own, env⟩ ok O V := fun w0 R0 R a w hs => by
  have hle : Le G n ⟨own, env⟩ ⟨own.set i (.box b t (cs.set j (AV.list sz []))), env⟩ := i0 [] i (.box b t (cs.set j (AV.list sz []))) rfl hi ⟨rfl, rfl, AU4 j hj⟩ hG
  obtain ⟨R1, h1, h2⟩ := hle w0 R0 R a w hs
  obtain ⟨x, v, R2, g0, g1, g2, g3, g4⟩ := k w0 R0 R1 a w h2
  exact ⟨x, v, R2, g0, g1, g2, h1.trans g3, g4⟩
theorem Y7 {y : AV} (i j sz : Nat) {b : Nat} {t : TypeId} {cs : List AV} (hi : own[i]? = some (.box b t cs)) (hj : cs[j]? = some AV.nils)
    (k : RetOk P (fun _ => False) n fn ⟨own.set i (.box b t (cs.set j (AV.list sz []))), env⟩ y) : RetOk P (fun _ => False) n fn ⟨own, env⟩ y := fun w0 R0 R a w hs => by
  have hle : Le (fun _ => False) n ⟨own, env⟩ ⟨own.set i (.box b t (cs.set j (AV.list sz []))), env⟩ := i0 [] i (.box b t (cs.set j (AV.list sz []))) rfl hi ⟨rfl, rfl, AU4 j hj⟩ AH0
  obtain ⟨R1, h1, h2⟩ := hle w0 R0 R a w hs
  obtain ⟨v, R2, h3, h4, h5, h6⟩ := k w0 R0 R1 a w h2
  exact ⟨v, R2, h3, h4, h1.trans h5, h6⟩
end
end Go.AV
