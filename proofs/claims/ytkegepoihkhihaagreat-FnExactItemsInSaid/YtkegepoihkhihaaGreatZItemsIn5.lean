/- Texts of the claim, part 5. -/
import Derived.ProofKit
import Derived.OpenShut
import Derived.ShutString
import Derived.ChangeOld
import Derived.Test.YtkegepoihkhihaaGreatZItemsIn4

set_option linter.unusedVariables false
set_option linter.unusedSimpArgs false
set_option maxRecDepth 100000
set_option maxHeartbeats 1000000
namespace Go.Proofs.YtkegepoihkhihaaGreat
open Go Go.AV Go.M
attribute [local irreducible] OpW OpA OpS AWP FSpec ESpec GSpec OpE RetOk RetOkG RvDen Le Ev GuardIs SrcIs Int.tmod Int.tdiv IntKind.wrap
theorem AK9 (l : List Str) (hl : l.length ≤ 4194304) : GSpec Tryz.prog 202 [strs l] [] (fun _ : Value => True) (fun v => [.arr v 9 1 (l.map fun s => [AV.str s])]) (fun v => AV.is v) := by
 refine K0 Tryz.func202 rfl Tryz.ntmps202 rfl ?_
 refine A3 (A2 ?_)
 refine A1 rfl (A9 rfl S2) ?_
 refine A4 (A3 (A2 ?_))
 refine W9 rfl rfl rfl rfl D5 C6 ?_
 intro v3
 refine A5 rfl ?_
 refine U8 (by' := 16) 0 rfl rfl rfl rfl D5 Tryz.type9 rfl rfl rfl rfl rfl rfl (A0 rfl) (A0 rfl) rfl (by simp only [X3, A6]; omega) ?_
 intro v5_1
 refine B3 rfl ?_
 refine A4 ?_
 refine B8 ?_
 exact V4 [0] v5_1 (trivial) rfl (by rfl) (U3 rfl (B7 rfl (by rfl)))
theorem AL0 (v : Value) (l : List Str) (s : Str) (hs : SrtS l) (hl : l.length ≤ 1000000) : GSpec Tryz.prog 169 [AV.is v, AV.str s] [.arr v 9 1 (l.map fun s => [AV.str s])] (fun _ : Value => True) (fun v' => [.arr v' 9 1 ((putS l s).map fun s => [AV.str s])]) (fun v' => AV.is v') := by
 refine K0 Tryz.func169 rfl Tryz.ntmps169 rfl ?_
 refine A3 (A2 ?_)
 refine A1 rfl (A9 rfl S2) ?_
 refine A4 (A3 (A2 ?_))
 refine A5 rfl ?_
 refine A1 rfl (V3 0 rfl D5 (A0 rfl) rfl) ?_
 refine B3 rfl ?_
 refine A4 (A3 (C4 ?_))
 refine H2 [(0, _), (1, _), (4, _)] _ (fun (k : Nat) => k ≤ l.length ∧ ∀ i y, k ≤ i → l[i]? = some y → Op.bytesLess s y = true) (fun (k : Nat) => []) (fun (k : Nat) => [(5, AV.int k)]) (fun (k : Nat) => k) (l.length) ?_ (H1 ⟨congrArg (fun z => some (AV.int z)) (by rw [A6]), rfl, rfl, rfl, trivial⟩) ?_
 ·exact ⟨Nat.le_refl _, fun i y h1 h2 => by (have := (List.getElem?_eq_some_iff.1 h2).1; omega)⟩
 intro k hinv
 obtain ⟨y, hy0⟩ : ∃ y, 0 < k → l[k - 1]? = some y := by (by_cases h9 : 0 < k; (have h8 := hinv.1; exact ⟨_, fun _ => List.getElem?_eq_getElem (show k - 1 < l.length by omega)⟩); exact ⟨[], fun h8 => absurd h8 h9⟩)
 refine A3 (A3 (A2 ?_))
 refine A5 rfl ?_
 refine A1 rfl (R4 rfl (A0 rfl) B4) ?_
 refine A5 rfl ?_
 refine D1 rfl (fun hc => C2 rfl (A0 rfl)) ?_
 refine D1 rfl (fun hc => C2 rfl (A0 rfl)) ?_
 refine D1 rfl (fun hc => P4 rfl (A7 rfl hc) B4 (by first | omega | ((try simp only [D4, B0, szR] at *); omega) | (have hc2 := hc; simp only [O6, beq_iff_eq, bne_iff_ne, A6, F4] at hc2; omega))) ?_
 refine D1 rfl (fun hc => L0 0 rfl D5 C6 (A7 rfl hc) rfl (A7 rfl hc) (by have := of_decide_eq_true hc; omega) (by have := of_decide_eq_true hc; have := hinv.1; simp only [A6]; omega)) ?_
 refine D1 rfl (fun hc => e7 0 rfl (A7 rfl hc) rfl E5 (p7 (hy0 (by have := of_decide_eq_true hc; omega)) (by have := of_decide_eq_true hc; omega))) ?_
 refine D1 rfl (fun hc => C2 rfl (A0 rfl)) ?_
 refine D1 rfl (fun hc => w_sgtr rfl (A7 rfl hc) (A7 rfl hc)) ?_
 refine A1 rfl (H5 rfl (A0 rfl) (F3 rfl)) ?_
 refine A4 ?_
 refine C0 (A0 rfl) ?_ ?_
 ·intro h19
  have hkt : 0 < k ∧ Op.bytesLess s y = true := by (rw [Af8] at h19; simpa using h19)
  refine C1 (C4 (A2 ?_))
  refine A5 rfl ?_
  refine A1 rfl (P4 rfl (A0 rfl) B4 (by first | omega | (simp only [D4, B0, szR] at *; omega))) ?_
  refine B3 rfl ?_
  refine A4 ?_
  refine g8 ?_
  refine I0 k (k - 1) ?_ ?_ (H1 ⟨congrArg (fun z => some (AV.int z)) (by omega), rfl, rfl, rfl, trivial⟩)
  ·exact ⟨by omega, fun i z hi hz => if e : k ≤ i then hinv.2 i z e hz else (by have e2 : i = k - 1 := (by omega); subst e2; rw [hy0 hkt.1] at hz; injection hz with hz; subst hz; exact hkt.2)⟩
  omega
 intro h19
 have hng : 0 < k → Op.bytesLess s y = false := fun h => by (rw [Af8] at h19; simpa [h] using h19)
 refine F5 ?_
 refine A3 (A3 (A2 ?_))
 refine A5 rfl ?_
 refine A1 rfl (R4 rfl (A0 rfl) B4) ?_
 refine A5 rfl ?_
 refine D1 rfl (fun hc => C2 rfl (A0 rfl)) ?_
 refine D1 rfl (fun hc => C2 rfl (A0 rfl)) ?_
 refine D1 rfl (fun hc => P4 rfl (A7 rfl hc) B4 (by first | omega | ((try simp only [D4, B0, szR] at *); omega) | (have hc2 := hc; simp only [O6, beq_iff_eq, bne_iff_ne, A6, F4] at hc2; omega))) ?_
 refine D1 rfl (fun hc => L0 0 rfl D5 C6 (A7 rfl hc) rfl (A7 rfl hc) (by have := of_decide_eq_true hc; omega) (by have := of_decide_eq_true hc; have := hinv.1; simp only [A6]; omega)) ?_
 refine D1 rfl (fun hc => e7 0 rfl (A7 rfl hc) rfl E5 (p7 (hy0 (by have := of_decide_eq_true hc; omega)) (by have := of_decide_eq_true hc; omega))) ?_
 refine D1 rfl (fun hc => C2 rfl (A0 rfl)) ?_
 refine D1 rfl (fun hc => o3 rfl (A7 rfl hc) (A7 rfl hc)) ?_
 refine A1 rfl (H5 rfl (A0 rfl) (F3 rfl)) ?_
 refine A4 ?_
 refine C0 (A0 rfl) ?_ ?_
 ·intro h32
  have hke : 0 < k ∧ y = s := by simpa using h32
  rw [AK1 hs (by rw [← hke.2]; exact hy0 hke.1)]
  refine A3 (A2 ?_)
  refine A5 rfl ?_
  refine B3 rfl ?_
  refine A4 ?_
  refine B8 ?_
  exact V4 [0] v (trivial) rfl (by first | rfl | exact congrArg (fun z => [Own.arr _ 9 1 z]) (by show List.map (fun s => [AV.str s]) (l.take k ++ s :: l.drop k) = (List.map (fun s => [AV.str s]) (l.take k) ++ [[AV.str s]]) ++ List.map (fun s => [AV.str s]) (l.drop k); simp)) (U3 rfl (B7 rfl (by rfl)))
 intro h32
 have hne : 0 < k → y ≠ s := fun h e => by simp [h, e] at h32
 rw [AQ4 hs hinv.1 hinv.2 (fun z hz hzz => by rw [hy0 hz] at hzz; injection hzz with hzz; subst hzz; exact ⟨hng hz, hne hz⟩)]
 refine C1 (A3 (A2 ?_))
 refine A5 rfl ?_
 refine A5 rfl ?_
 refine A1 rfl (AT9 0 rfl D5 C6 (A0 rfl) rfl (A0 rfl) (by omega) (by simp only [A6]; omega)) ?_
 refine r6 [] rfl rfl rfl rfl Tryz.call202 rfl (AK9 (l.drop k) (by rw [List.length_drop]; omega)) rfl (L2 (AU9 (A0 rfl) (lt_tailm (H4 (i := 0) rfl) (by omega) (by omega))) T1) (by first | exact H6 | (intro _; exact H6) | (intro _; first | exact E0 _ | exact C8 _ _ | exact C3 _ | exact D0 _ | exact C9) | (intro _; refine U4 ?_; (repeat (first | exact C5 | (refine B6 (by first | (first | exact E0 _ | exact C8 _ _ | exact C3 _ | exact D0 _ | exact C9) | (refine N9 ?_; (repeat (first | exact C5 | (refine B6 (by first | exact E0 _ | exact C8 _ _ | exact C3 _ | exact D0 _ | exact C9) ?_))))) ?_))); done) | (intro _; refine N9 ?_; (repeat (first | exact C5 | (refine B6 (by first | exact E0 _ | exact C8 _ _ | exact C3 _ | exact D0 _ | exact C9) ?_))); done) | ((repeat (first | exact H6 | (refine H0 (M3 ?_) ?_; (repeat (first | exact C5 | (refine B6 (by first | exact E0 _ | exact C8 _ _ | exact C3 _ | exact D0 _ | exact C9) ?_)))) | (refine H0 (M4 ?_) ?_; (repeat (first | exact M5 | (refine M7 (fun _ => ?_); (first | exact TWrite.flat _ | exact TFeedItem.flat _ | exact TIdx.flat _ | exact TVer.flat _ | (repeat (first | exact C5 | (refine B6 (by first | exact E0 _ | exact C8 _ _ | exact C3 _ | exact D0 _ | exact C9) ?_))))) | (refine M8 ?_; (first | exact TWrite.flat _ | exact TFeedItem.flat _ | exact TIdx.flat _ | exact TVer.flat _ | (repeat (first | exact C5 | (refine B6 (by first | exact E0 _ | exact C8 _ _ | exact C3 _ | exact D0 _ | exact C9) ?_))))) | (refine L4 ?_ ?_; (first | exact TWrite.flat _ | exact TFeedItem.flat _ | exact TIdx.flat _ | exact TVer.flat _ | (repeat (first | exact C5 | (refine B6 (by first | exact E0 _ | exact C8 _ _ | exact C3 _ | exact D0 _ | exact C9) ?_))))) | refine M6 ?_ ?_))))); done) | (intro _; (repeat (first | exact H6 | (refine H0 (M3 ?_) ?_; (repeat (first | exact C5 | (refine B6 (by first | exact E0 _ | exact C8 _ _ | exact C3 _ | exact D0 _ | exact C9) ?_)))) | (refine H0 (M4 ?_) ?_; (repeat (first | exact M5 | (refine M7 (fun _ => ?_); (first | exact TWrite.flat _ | exact TFeedItem.flat _ | exact TIdx.flat _ | exact TVer.flat _ | (repeat (first | exact C5 | (refine B6 (by first | exact E0 _ | exact C8 _ _ | exact C3 _ | exact D0 _ | exact C9) ?_))))) | (refine M8 ?_; (first | exact TWrite.flat _ | exact TFeedItem.flat _ | exact TIdx.flat _ | exact TVer.flat _ | (repeat (first | exact C5 | (refine B6 (by first | exact E0 _ | exact C8 _ _ | exact C3 _ | exact D0 _ | exact C9) ?_))))) | (refine L4 ?_ ?_; (first | exact TWrite.flat _ | exact TFeedItem.flat _ | exact TIdx.flat _ | exact TVer.flat _ | (repeat (first | exact C5 | (refine B6 (by first | exact E0 _ | exact C8 _ _ | exact C3 _ | exact D0 _ | exact C9) ?_))))) | refine M6 ?_ ?_))))); done)) (by first | exact H6 | (intro _; exact H6) | (intro _; first | exact E0 _ | exact C8 _ _ | exact C3 _ | exact D0 _ | exact C9) | (intro _; refine U4 ?_; (repeat (first | exact C5 | (refine B6 (by first | (first | exact E0 _ | exact C8 _ _ | exact C3 _ | exact D0 _ | exact C9) | (refine N9 ?_; (repeat (first | exact C5 | (refine B6 (by first | exact E0 _ | exact C8 _ _ | exact C3 _ | exact D0 _ | exact C9) ?_))))) ?_))); done) | (intro _; refine N9 ?_; (repeat (first | exact C5 | (refine B6 (by first | exact E0 _ | exact C8 _ _ | exact C3 _ | exact D0 _ | exact C9) ?_))); done) | ((repeat (first | exact H6 | (refine H0 (M3 ?_) ?_; (repeat (first | exact C5 | (refine B6 (by first | exact E0 _ | exact C8 _ _ | exact C3 _ | exact D0 _ | exact C9) ?_)))) | (refine H0 (M4 ?_) ?_; (repeat (first | exact M5 | (refine M7 (fun _ => ?_); (first | exact TWrite.flat _ | exact TFeedItem.flat _ | exact TIdx.flat _ | exact TVer.flat _ | (repeat (first | exact C5 | (refine B6 (by first | exact E0 _ | exact C8 _ _ | exact C3 _ | exact D0 _ | exact C9) ?_))))) | (refine M8 ?_; (first | exact TWrite.flat _ | exact TFeedItem.flat _ | exact TIdx.flat _ | exact TVer.flat _ | (repeat (first | exact C5 | (refine B6 (by first | exact E0 _ | exact C8 _ _ | exact C3 _ | exact D0 _ | exact C9) ?_))))) | (refine L4 ?_ ?_; (first | exact TWrite.flat _ | exact TFeedItem.flat _ | exact TIdx.flat _ | exact TVer.flat _ | (repeat (first | exact C5 | (refine B6 (by first | exact E0 _ | exact C8 _ _ | exact C3 _ | exact D0 _ | exact C9) ?_))))) | refine M6 ?_ ?_))))); done) | (intro _; (repeat (first | exact H6 | (refine H0 (M3 ?_) ?_; (repeat (first | exact C5 | (refine B6 (by first | exact E0 _ | exact C8 _ _ | exact C3 _ | exact D0 _ | exact C9) ?_)))) | (refine H0 (M4 ?_) ?_; (repeat (first | exact M5 | (refine M7 (fun _ => ?_); (first | exact TWrite.flat _ | exact TFeedItem.flat _ | exact TIdx.flat _ | exact TVer.flat _ | (repeat (first | exact C5 | (refine B6 (by first | exact E0 _ | exact C8 _ _ | exact C3 _ | exact D0 _ | exact C9) ?_))))) | (refine M8 ?_; (first | exact TWrite.flat _ | exact TFeedItem.flat _ | exact TIdx.flat _ | exact TVer.flat _ | (repeat (first | exact C5 | (refine B6 (by first | exact E0 _ | exact C8 _ _ | exact C3 _ | exact D0 _ | exact C9) ?_))))) | (refine L4 ?_ ?_; (first | exact TWrite.flat _ | exact TFeedItem.flat _ | exact TIdx.flat _ | exact TVer.flat _ | (repeat (first | exact C5 | (refine B6 (by first | exact E0 _ | exact C8 _ _ | exact C3 _ | exact D0 _ | exact C9) ?_))))) | refine M6 ?_ ?_))))); done)) (by first | exact H6 | (intro _; exact H6) | (intro _; first | exact E0 _ | exact C8 _ _ | exact C3 _ | exact D0 _ | exact C9) | (intro _; refine U4 ?_; (repeat (first | exact C5 | (refine B6 (by first | (first | exact E0 _ | exact C8 _ _ | exact C3 _ | exact D0 _ | exact C9) | (refine N9 ?_; (repeat (first | exact C5 | (refine B6 (by first | exact E0 _ | exact C8 _ _ | exact C3 _ | exact D0 _ | exact C9) ?_))))) ?_))); done) | (intro _; refine N9 ?_; (repeat (first | exact C5 | (refine B6 (by first | exact E0 _ | exact C8 _ _ | exact C3 _ | exact D0 _ | exact C9) ?_))); done) | ((repeat (first | exact H6 | (refine H0 (M3 ?_) ?_; (repeat (first | exact C5 | (refine B6 (by first | exact E0 _ | exact C8 _ _ | exact C3 _ | exact D0 _ | exact C9) ?_)))) | (refine H0 (M4 ?_) ?_; (repeat (first | exact M5 | (refine M7 (fun _ => ?_); (first | exact TWrite.flat _ | exact TFeedItem.flat _ | exact TIdx.flat _ | exact TVer.flat _ | (repeat (first | exact C5 | (refine B6 (by first | exact E0 _ | exact C8 _ _ | exact C3 _ | exact D0 _ | exact C9) ?_))))) | (refine M8 ?_; (first | exact TWrite.flat _ | exact TFeedItem.flat _ | exact TIdx.flat _ | exact TVer.flat _ | (repeat (first | exact C5 | (refine B6 (by first | exact E0 _ | exact C8 _ _ | exact C3 _ | exact D0 _ | exact C9) ?_))))) | (refine L4 ?_ ?_; (first | exact TWrite.flat _ | exact TFeedItem.flat _ | exact TIdx.flat _ | exact TVer.flat _ | (repeat (first | exact C5 | (refine B6 (by first | exact E0 _ | exact C8 _ _ | exact C3 _ | exact D0 _ | exact C9) ?_))))) | refine M6 ?_ ?_))))); done) | (intro _; (repeat (first | exact H6 | (refine H0 (M3 ?_) ?_; (repeat (first | exact C5 | (refine B6 (by first | exact E0 _ | exact C8 _ _ | exact C3 _ | exact D0 _ | exact C9) ?_)))) | (refine H0 (M4 ?_) ?_; (repeat (first | exact M5 | (refine M7 (fun _ => ?_); (first | exact TWrite.flat _ | exact TFeedItem.flat _ | exact TIdx.flat _ | exact TVer.flat _ | (repeat (first | exact C5 | (refine B6 (by first | exact E0 _ | exact C8 _ _ | exact C3 _ | exact D0 _ | exact C9) ?_))))) | (refine M8 ?_; (first | exact TWrite.flat _ | exact TFeedItem.flat _ | exact TIdx.flat _ | exact TVer.flat _ | (repeat (first | exact C5 | (refine B6 (by first | exact E0 _ | exact C8 _ _ | exact C3 _ | exact D0 _ | exact C9) ?_))))) | (refine L4 ?_ ?_; (first | exact TWrite.flat _ | exact TFeedItem.flat _ | exact TIdx.flat _ | exact TVer.flat _ | (repeat (first | exact C5 | (refine B6 (by first | exact E0 _ | exact C8 _ _ | exact C3 _ | exact D0 _ | exact C9) ?_))))) | refine M6 ?_ ?_))))); done)) ?_
 intro x37 ok37
 refine B3 rfl ?_
 refine A4 (A3 ?_)
 refine AWP.le (le_sealD [0] 6 rfl rfl (i6 (H4 (i := 0) rfl) W8) (gin_cons 0 rfl rfl gin_nil)) ?_
 refine A2 ?_
 refine A5 rfl ?_
 refine A5 rfl ?_
 refine sq_ahi 0 rfl rfl rfl rfl D5 C6 (A0 rfl) rfl (A0 rfl) (by omega) (by simp only [A6]; omega) ?_
 intro v40_1
 rw [Int.toNat_natCast, ← List.map_take]
 refine r6 [] rfl rfl rfl rfl Tryz.call202 rfl (AK9 (l.take k) (by rw [F4]; omega)) rfl (L2 (j6 0 (A0 rfl) rfl) T1) (by first | exact H6 | (intro _; exact H6) | (intro _; first | exact E0 _ | exact C8 _ _ | exact C3 _ | exact D0 _ | exact C9) | (intro _; refine U4 ?_; (repeat (first | exact C5 | (refine B6 (by first | (first | exact E0 _ | exact C8 _ _ | exact C3 _ | exact D0 _ | exact C9) | (refine N9 ?_; (repeat (first | exact C5 | (refine B6 (by first | exact E0 _ | exact C8 _ _ | exact C3 _ | exact D0 _ | exact C9) ?_))))) ?_))); done) | (intro _; refine N9 ?_; (repeat (first | exact C5 | (refine B6 (by first | exact E0 _ | exact C8 _ _ | exact C3 _ | exact D0 _ | exact C9) ?_))); done) | ((repeat (first | exact H6 | (refine H0 (M3 ?_) ?_; (repeat (first | exact C5 | (refine B6 (by first | exact E0 _ | exact C8 _ _ | exact C3 _ | exact D0 _ | exact C9) ?_)))) | (refine H0 (M4 ?_) ?_; (repeat (first | exact M5 | (refine M7 (fun _ => ?_); (first | exact TWrite.flat _ | exact TFeedItem.flat _ | exact TIdx.flat _ | exact TVer.flat _ | (repeat (first | exact C5 | (refine B6 (by first | exact E0 _ | exact C8 _ _ | exact C3 _ | exact D0 _ | exact C9) ?_))))) | (refine M8 ?_; (first | exact TWrite.flat _ | exact TFeedItem.flat _ | exact TIdx.flat _ | exact TVer.flat _ | (repeat (first | exact C5 | (refine B6 (by first | exact E0 _ | exact C8 _ _ | exact C3 _ | exact D0 _ | exact C9) ?_))))) | (refine L4 ?_ ?_; (first | exact TWrite.flat _ | exact TFeedItem.flat _ | exact TIdx.flat _ | exact TVer.flat _ | (repeat (first | exact C5 | (refine B6 (by first | exact E0 _ | exact C8 _ _ | exact C3 _ | exact D0 _ | exact C9) ?_))))) | refine M6 ?_ ?_))))); done) | (intro _; (repeat (first | exact H6 | (refine H0 (M3 ?_) ?_; (repeat (first | exact C5 | (refine B6 (by first | exact E0 _ | exact C8 _ _ | exact C3 _ | exact D0 _ | exact C9) ?_)))) | (refine H0 (M4 ?_) ?_; (repeat (first | exact M5 | (refine M7 (fun _ => ?_); (first | exact TWrite.flat _ | exact TFeedItem.flat _ | exact TIdx.flat _ | exact TVer.flat _ | (repeat (first | exact C5 | (refine B6 (by first | exact E0 _ | exact C8 _ _ | exact C3 _ | exact D0 _ | exact C9) ?_))))) | (refine M8 ?_; (first | exact TWrite.flat _ | exact TFeedItem.flat _ | exact TIdx.flat _ | exact TVer.flat _ | (repeat (first | exact C5 | (refine B6 (by first | exact E0 _ | exact C8 _ _ | exact C3 _ | exact D0 _ | exact C9) ?_))))) | (refine L4 ?_ ?_; (first | exact TWrite.flat _ | exact TFeedItem.flat _ | exact TIdx.flat _ | exact TVer.flat _ | (repeat (first | exact C5 | (refine B6 (by first | exact E0 _ | exact C8 _ _ | exact C3 _ | exact D0 _ | exact C9) ?_))))) | refine M6 ?_ ?_))))); done)) (by first | exact H6 | (intro _; exact H6) | (intro _; first | exact E0 _ | exact C8 _ _ | exact C3 _ | exact D0 _ | exact C9) | (intro _; refine U4 ?_; (repeat (first | exact C5 | (refine B6 (by first | (first | exact E0 _ | exact C8 _ _ | exact C3 _ | exact D0 _ | exact C9) | (refine N9 ?_; (repeat (first | exact C5 | (refine B6 (by first | exact E0 _ | exact C8 _ _ | exact C3 _ | exact D0 _ | exact C9) ?_))))) ?_))); done) | (intro _; refine N9 ?_; (repeat (first | exact C5 | (refine B6 (by first | exact E0 _ | exact C8 _ _ | exact C3 _ | exact D0 _ | exact C9) ?_))); done) | ((repeat (first | exact H6 | (refine H0 (M3 ?_) ?_; (repeat (first | exact C5 | (refine B6 (by first | exact E0 _ | exact C8 _ _ | exact C3 _ | exact D0 _ | exact C9) ?_)))) | (refine H0 (M4 ?_) ?_; (repeat (first | exact M5 | (refine M7 (fun _ => ?_); (first | exact TWrite.flat _ | exact TFeedItem.flat _ | exact TIdx.flat _ | exact TVer.flat _ | (repeat (first | exact C5 | (refine B6 (by first | exact E0 _ | exact C8 _ _ | exact C3 _ | exact D0 _ | exact C9) ?_))))) | (refine M8 ?_; (first | exact TWrite.flat _ | exact TFeedItem.flat _ | exact TIdx.flat _ | exact TVer.flat _ | (repeat (first | exact C5 | (refine B6 (by first | exact E0 _ | exact C8 _ _ | exact C3 _ | exact D0 _ | exact C9) ?_))))) | (refine L4 ?_ ?_; (first | exact TWrite.flat _ | exact TFeedItem.flat _ | exact TIdx.flat _ | exact TVer.flat _ | (repeat (first | exact C5 | (refine B6 (by first | exact E0 _ | exact C8 _ _ | exact C3 _ | exact D0 _ | exact C9) ?_))))) | refine M6 ?_ ?_))))); done) | (intro _; (repeat (first | exact H6 | (refine H0 (M3 ?_) ?_; (repeat (first | exact C5 | (refine B6 (by first | exact E0 _ | exact C8 _ _ | exact C3 _ | exact D0 _ | exact C9) ?_)))) | (refine H0 (M4 ?_) ?_; (repeat (first | exact M5 | (refine M7 (fun _ => ?_); (first | exact TWrite.flat _ | exact TFeedItem.flat _ | exact TIdx.flat _ | exact TVer.flat _ | (repeat (first | exact C5 | (refine B6 (by first | exact E0 _ | exact C8 _ _ | exact C3 _ | exact D0 _ | exact C9) ?_))))) | (refine M8 ?_; (first | exact TWrite.flat _ | exact TFeedItem.flat _ | exact TIdx.flat _ | exact TVer.flat _ | (repeat (first | exact C5 | (refine B6 (by first | exact E0 _ | exact C8 _ _ | exact C3 _ | exact D0 _ | exact C9) ?_))))) | (refine L4 ?_ ?_; (first | exact TWrite.flat _ | exact TFeedItem.flat _ | exact TIdx.flat _ | exact TVer.flat _ | (repeat (first | exact C5 | (refine B6 (by first | exact E0 _ | exact C8 _ _ | exact C3 _ | exact D0 _ | exact C9) ?_))))) | refine M6 ?_ ?_))))); done)) (by first | exact H6 | (intro _; exact H6) | (intro _; first | exact E0 _ | exact C8 _ _ | exact C3 _ | exact D0 _ | exact C9) | (intro _; refine U4 ?_; (repeat (first | exact C5 | (refine B6 (by first | (first | exact E0 _ | exact C8 _ _ | exact C3 _ | exact D0 _ | exact C9) | (refine N9 ?_; (repeat (first | exact C5 | (refine B6 (by first | exact E0 _ | exact C8 _ _ | exact C3 _ | exact D0 _ | exact C9) ?_))))) ?_))); done) | (intro _; refine N9 ?_; (repeat (first | exact C5 | (refine B6 (by first | exact E0 _ | exact C8 _ _ | exact C3 _ | exact D0 _ | exact C9) ?_))); done) | ((repeat (first | exact H6 | (refine H0 (M3 ?_) ?_; (repeat (first | exact C5 | (refine B6 (by first | exact E0 _ | exact C8 _ _ | exact C3 _ | exact D0 _ | exact C9) ?_)))) | (refine H0 (M4 ?_) ?_; (repeat (first | exact M5 | (refine M7 (fun _ => ?_); (first | exact TWrite.flat _ | exact TFeedItem.flat _ | exact TIdx.flat _ | exact TVer.flat _ | (repeat (first | exact C5 | (refine B6 (by first | exact E0 _ | exact C8 _ _ | exact C3 _ | exact D0 _ | exact C9) ?_))))) | (refine M8 ?_; (first | exact TWrite.flat _ | exact TFeedItem.flat _ | exact TIdx.flat _ | exact TVer.flat _ | (repeat (first | exact C5 | (refine B6 (by first | exact E0 _ | exact C8 _ _ | exact C3 _ | exact D0 _ | exact C9) ?_))))) | (refine L4 ?_ ?_; (first | exact TWrite.flat _ | exact TFeedItem.flat _ | exact TIdx.flat _ | exact TVer.flat _ | (repeat (first | exact C5 | (refine B6 (by first | exact E0 _ | exact C8 _ _ | exact C3 _ | exact D0 _ | exact C9) ?_))))) | refine M6 ?_ ?_))))); done) | (intro _; (repeat (first | exact H6 | (refine H0 (M3 ?_) ?_; (repeat (first | exact C5 | (refine B6 (by first | exact E0 _ | exact C8 _ _ | exact C3 _ | exact D0 _ | exact C9) ?_)))) | (refine H0 (M4 ?_) ?_; (repeat (first | exact M5 | (refine M7 (fun _ => ?_); (first | exact TWrite.flat _ | exact TFeedItem.flat _ | exact TIdx.flat _ | exact TVer.flat _ | (repeat (first | exact C5 | (refine B6 (by first | exact E0 _ | exact C8 _ _ | exact C3 _ | exact D0 _ | exact C9) ?_))))) | (refine M8 ?_; (first | exact TWrite.flat _ | exact TFeedItem.flat _ | exact TIdx.flat _ | exact TVer.flat _ | (repeat (first | exact C5 | (refine B6 (by first | exact E0 _ | exact C8 _ _ | exact C3 _ | exact D0 _ | exact C9) ?_))))) | (refine L4 ?_ ?_; (first | exact TWrite.flat _ | exact TFeedItem.flat _ | exact TIdx.flat _ | exact TVer.flat _ | (repeat (first | exact C5 | (refine B6 (by first | exact E0 _ | exact C8 _ _ | exact C3 _ | exact D0 _ | exact C9) ?_))))) | refine M6 ?_ ?_))))); done)) ?_
 intro x41 ok41
 refine A5 rfl ?_
 refine A1 rfl (X8 rfl D5 C6 Tryz.zeroValue9 rfl rfl rfl rfl (N3 (A0 rfl) (Q7 _) W7) rfl rfl) ?_
 refine U8 (by' := 16) 0 rfl rfl rfl rfl D5 Tryz.type9 rfl rfl rfl rfl rfl rfl (A0 rfl) (A0 rfl) rfl (by simp only [A6, F4, B0]; omega) ?_
 intro v44_2
 refine A5 rfl ?_
 refine U8 (by' := 16) 0 rfl rfl rfl rfl D5 Tryz.type9 rfl rfl rfl rfl rfl rfl (A0 rfl) (A0 rfl) rfl (by simp only [A6, F4, List.length_drop, I6, B0]; omega) ?_
 intro v46_3
 refine B3 rfl ?_
 refine A4 ?_
 refine B8 ?_
 exact V4 [0] v46_3 (trivial) rfl (by first | rfl | exact congrArg (fun z => [Own.arr _ 9 1 z]) (by show List.map (fun s => [AV.str s]) (l.take k ++ s :: l.drop k) = (List.map (fun s => [AV.str s]) (l.take k) ++ [[AV.str s]]) ++ List.map (fun s => [AV.str s]) (l.drop k); simp)) (U3 rfl (B7 rfl (by rfl)))
end Go.Proofs.YtkegepoihkhihaaGreat

namespace Go.M
open Go.AV
theorem fullC_at {l : List TCell} {k : Str} {c : TCell} (hc : ¬ atC l k < 0 → findC l k = some c) : fullC l k = (decide ((0 : Int) ≤ atC l k) && decide ((16 : Int) ≤ (c.Vers.length : Int))) := by
  unfold fullC
  by_cases h : atC l k < 0
  · rw [Ag2 h, decide_eq_false (by omega)]; rfl
  · rw [hc h, decide_eq_true (by omega), Bool.true_and]
    dsimp only
    rw [decide_eq_decide]; omega
theorem at_some (l : List TCell) (k : Str) : ∃ c : TCell, ¬ atC l k < 0 → (∃ p : Nat, atC l k = (p : Int) ∧ l[p]? = some c) ∧ findC l k = some c := by
  by_cases h : atC l k < 0
  · exact ⟨⟨[], []⟩, fun k => absurd h k⟩
  · obtain ⟨p, c, h1, h2, h3⟩ := Ag3 h
    exact ⟨c, fun _ => ⟨⟨p, h1, h2⟩, h3⟩⟩
theorem n9 {s : TState} {i : Nat} {h y : THeld} (hx : s.Held[i]? = some h) (hy : s.Held[i - 1]? = some y) : heldAt s i = (!((!l4Good (hRec h) || decide (s.Floor < h.Time)) || (decide ((0 : Int) < (i : Int)) && decide (h.Txn ≤ y.Txn))) && ((s.Held.take i).all (fun g => apart g h.Reads h.Writes) && h.Writes.all fun w => decide (lastTime s.Cells w.Key < h.Time))) := by
  rw [m9 hx hy, Ai5]
  have h2 : ((s.Held.take i).all fun g => apart g h.Reads h.Writes) = !((s.Held.take i).any fun g => clash h g) := by
    rw [List.not_any_eq_all_not]; congr 1; funext g; rw [AF4, Bool.not_not]
  have h3 : (h.Writes.all fun w => decide (lastTime s.Cells w.Key < h.Time)) = !(h.Writes.any fun w => decide (h.Time ≤ lastTime s.Cells w.Key)) := by
    rw [List.not_any_eq_all_not]; congr 1; funext w; rw [← decide_not, decide_eq_decide]; omega
  rw [h2, h3]
theorem y9 {s : TState} {i : Nat} {t y : TTold} (hx : s.Told[i]? = some t) (hy : s.Told[i - 1]? = some y) : toldAt s i = (!((((!within t.Txn 1 60 || (decide ((0 : Int) < (i : Int)) && decide (t.Txn ≤ y.Txn))) || (t.Yes && !within t.Time 1 s.Floor)) || (!t.Yes && (t.Time != 0)))) && !hasH s.Held t.Txn) := by
  rw [s4 hx hy]
  congr 2
  show ((!within t.Txn 1 60 || _) || _) = _
  have e : (!((t.Yes && within t.Time 1 s.Floor) || (!t.Yes && (t.Time == 0)))) = ((t.Yes && !within t.Time 1 s.Floor) || (!t.Yes && (t.Time != 0))) := by
    show _ = ((t.Yes && !within t.Time 1 s.Floor) || (!t.Yes && !(t.Time == 0)))
    cases t.Yes <;> simp
  rw [e]
  cases within t.Txn 1 60 <;> cases (decide ((0 : Int) < (i : Int)) && decide (t.Txn ≤ y.Txn)) <;> cases (t.Yes && !within t.Time 1 s.Floor) <;> cases (!t.Yes && (t.Time != 0)) <;> rfl
def heldFO (l : List THeld) (n : Int) : THeld × Bool := match findH l n with | some h => (h, true) | none => (zHeld, false)
theorem AR2 (l : List THeld) (n : Int) : (heldFO l n).2 = hasH l n := by
  unfold heldFO
  cases h : findH l n with
  | none => exact (Ai9.1 h).symm
  | some x => obtain ⟨h1, h2⟩ := Ai8 h; exact (hasH_iff.2 ⟨x, h1, h2⟩).symm
theorem AL1 {α : Type} {p : α → Bool} : ∀ {l : List α} {i : Nat} {x : α}, l[i]? = some x → p x = true → (∀ j y, j < i → l[j]? = some y → p y = false) → l.find? p = some x
  | [], i, x, h, _, _ => by simp at h
  | y :: l, 0, x, h, hp, _ => by simp at h; subst h; rw [List.find?_cons, hp]
  | y :: l, i + 1, x, h, hp, hn => by
    rw [List.find?_cons, hn 0 y (by omega) rfl]
    exact AL1 (by simpa using h) hp fun j z hj hz => hn (j + 1) z (by omega) (by simpa using hz)
theorem find_not {α : Type} {p : α → Bool} {l : List α} (hn : ∀ (j : Nat) (y : α), l[j]? = some y → p y = false) : l.find? p = none := by
  rw [List.find?_eq_none]
  intro x hx
  obtain ⟨j, hj⟩ := List.getElem?_of_mem hx
  rw [hn j x hj]; decide
end Go.M
namespace Go.Proofs.YtkegepoihkhihaaGreat
open Go Go.AV Go.M
attribute [local irreducible] OpW OpA OpS AWP FSpec ESpec GSpec OpE RetOk RetOkG RvDen Le Ev GuardIs SrcIs Int.tmod Int.tdiv IntKind.wrap
theorem AT5 (h : THeld) : FSpec Tryz.prog 177 [AV.agg h.cs] (AV.agg (hRec h).cs) := by
 refine D3 Tryz.func177 rfl Tryz.ntmps177 rfl ?_
 refine A3 (A2 ?_)
 refine I8 rfl rfl rfl rfl (A0 rfl) ?_
 intro b1
 refine I1 rfl rfl rfl rfl Tryz.zeroValue104 rfl ?_
 intro b2
 refine A4 (A3 (A2 ?_))
 refine A1 rfl (B2 0 rfl D8 rfl B9 (A0 rfl) rfl) ?_
 refine A1 rfl (B1 1 rfl (A0 rfl) rfl D2 rfl) ?_
 refine A1 rfl (B2 1 rfl D8 rfl B9 (A0 rfl) rfl) ?_
 refine A1 rfl (B1 1 rfl (A0 rfl) rfl D2 rfl) ?_
 refine A1 rfl (B2 2 rfl D8 rfl B9 (A0 rfl) rfl) ?_
 refine A1 rfl (B1 1 rfl (A0 rfl) rfl D2 rfl) ?_
 refine A1 rfl (B2 3 rfl D8 rfl K1 (A0 rfl) rfl) ?_
 refine A1 rfl (B1 1 rfl (A0 rfl) rfl L6 rfl) ?_
 refine A1 rfl (B2 4 rfl D8 rfl I7 (A0 rfl) rfl) ?_
 refine A1 rfl (B1 1 rfl (A0 rfl) rfl J7 rfl) ?_
 refine A1 rfl (u4 (places := #[(0, 1), (1, 1), (2, 1), (3, 1), (4, 1), (5, 1), (6, 1)]) rfl D6 Tryz.zeroValue104 (fun w => by kernel_rfl) rfl (N3 B4 (P9 _ _) (N3 (A0 rfl) (P9 _ _) (N3 (A0 rfl) (P9 _ _) (N3 (A0 rfl) (P9 _ _) (N3 (A0 rfl) (Z0 _ _) (N3 (A0 rfl) (Z0 _ _) W7)))))) rfl) ?_
 refine H9 0 rfl rfl rfl (A0 rfl) (A0 rfl) (J4 _) rfl Tryz.sizeOf104 rfl ?_
 refine A4 ?_
 refine B8 ?_
 exact E4 rfl (V2 (ys := _) 0 rfl rfl Tryz.isAgg104 Tryz.sizeOf104 rfl)
theorem AL2 (l : List TWrite) (k : Str) : FSpec Tryz.prog 214 [AV.list 3 (l.map TWrite.cs), AV.str k] (AV.bool (hasK l k)) := by
 refine D3 Tryz.func214 rfl Tryz.ntmps214 rfl ?_
 refine N7 (t := 0) rfl fun hl => ?_
 try simp only [A6] at hl
 refine A3 (A2 ?_)
 refine A1 rfl (A9 rfl E3) ?_
 refine A4 (A3 (A3 (A2 ?_)))
 refine A5 rfl ?_
 refine A1 rfl (E9 rfl E7 (A0 rfl)) ?_
 refine A1 rfl (C2 rfl B4) ?_
 refine A4 (C4 ?_)
 refine H2 [(1, _), (7, _), (8, _)] _ (fun (i : Nat) => i ≤ l.length ∧ hasK l k = (l.drop i).any (fun w => w.Key == k)) (fun (i : Nat) => []) (fun (i : Nat) => [(9, AV.int i)]) (fun (i : Nat) => l.length - i) (0) ?_ (H1 ⟨rfl, rfl, rfl, rfl, trivial⟩) ?_
 ·exact ⟨Nat.zero_le _, rfl⟩
 intro i hinv
 refine A3 (A2 ?_)
 refine A1 rfl (G0 rfl (A0 rfl) (A0 rfl)) ?_
 refine A4 (A3 ?_)
 refine C0 (A0 rfl) ?_ ?_
 ·intro h10
  have k10 := of_decide_eq_true h10; try simp only [A6] at k10
  have hlt : i < l.length := by omega
  obtain ⟨x, hx⟩ := get_some hlt
  refine C1 (A3 (C4 (A3 (A2 ?_))))
  refine A1 rfl (I9 rfl E7 G1 (A0 rfl) (A0 rfl) hx (by first | omega | (simp only [D4, B0, szR] at *; omega))) ?_
  refine A1 rfl (H8 rfl (A0 rfl) P1 G1) ?_
  refine I1 rfl rfl rfl rfl Tryz.zeroValue101 rfl ?_
  intro b6
  refine H9 0 rfl rfl rfl (A0 rfl) (A0 rfl) (J4 _) rfl G1 rfl ?_
  refine A4 (A3 (A2 ?_))
  refine A1 rfl (B2 0 rfl G2 rfl C6 (A0 rfl) rfl) ?_
  refine A1 rfl (B1 0 rfl (A0 rfl) rfl E5 rfl) ?_
  refine A5 rfl ?_
  refine A1 rfl (o3 rfl (A0 rfl) (A0 rfl)) ?_
  refine A4 ?_
  refine C0 (A0 rfl) ?_ ?_
  ·intro h16
   refine A3 (A2 ?_)
   refine A1 rfl (A9 rfl E3) ?_
   refine A4 ?_
   refine B8 ?_
   exact E4 rfl (B7 rfl (by first | exact congrArg AV.bool (by rw [hinv.2, drop_some hx, List.any_cons, h16]; rfl) | exact congrArg AV.bool (by rw [hinv.2, List.drop_eq_nil_of_le hge]; rfl)))
  intro h16
  refine C1 (A2 ?_)
  refine A1 rfl (F1 rfl (A0 rfl) B4 (by first | omega | (simp only [D4, B0, szR] at *; omega))) ?_
  refine A5 rfl ?_
  refine A4 ?_
  refine I0 i (i + 1) ?_ ?_ (S3 1 ⟨rfl, rfl, rfl, rfl, trivial⟩)
  ·exact ⟨by omega, by rw [hinv.2, drop_some hx, List.any_cons, h16]; rfl⟩
  omega
 intro h10
 have k10 := of_decide_eq_false h10; try simp only [A6] at k10
 have hge : l.length ≤ i := by omega
 refine F5 ?_
 refine A3 (A2 ?_)
 refine A1 rfl (A9 rfl E3) ?_
 refine A4 ?_
 refine B8 ?_
 exact E4 rfl (B7 rfl (by first | exact congrArg AV.bool (by rw [hinv.2, drop_some hx, List.any_cons, h16]; rfl) | exact congrArg AV.bool (by rw [hinv.2, List.drop_eq_nil_of_le hge]; rfl)))
theorem Aj7 (l : List Str) (k : Str) : FSpec Tryz.prog 215 [strs l, AV.str k] (AV.bool (hasS l k)) := by
 refine D3 Tryz.func215 rfl Tryz.ntmps215 rfl ?_
 refine N7 (t := 0) rfl fun hl => ?_
 try simp only [A6] at hl
 refine A3 (A2 ?_)
 refine A1 rfl (A9 rfl E3) ?_
 refine A4 (A3 (A3 (A2 ?_)))
 refine A5 rfl ?_
 refine A1 rfl (E9 rfl D5 (A0 rfl)) ?_
 refine A1 rfl (C2 rfl B4) ?_
 refine A4 (C4 ?_)
 refine H2 [(1, _), (7, _), (8, _)] _ (fun (i : Nat) => i ≤ l.length ∧ hasS l k = (l.drop i).any (fun x => k == x)) (fun (i : Nat) => []) (fun (i : Nat) => [(9, AV.int i)]) (fun (i : Nat) => l.length - i) (0) ?_ (H1 ⟨rfl, rfl, rfl, rfl, trivial⟩) ?_
 ·exact ⟨Nat.zero_le _, rfl⟩
 intro i hinv
 refine A3 (A2 ?_)
 refine A1 rfl (G0 rfl (A0 rfl) (A0 rfl)) ?_
 refine A4 (A3 ?_)
 refine C0 (A0 rfl) ?_ ?_
 ·intro h10
  have k10 := of_decide_eq_true h10; try simp only [A6] at k10
  have hlt : i < l.length := by omega
  obtain ⟨x, hx⟩ := get_some hlt
  refine C1 (A3 (C4 (A3 (A2 ?_))))
  refine A1 rfl (I9 rfl D5 C6 (A0 rfl) (A0 rfl) hx (by first | omega | (simp only [D4, B0, szR] at *; omega))) ?_
  refine A1 rfl (J5 rfl (A0 rfl) E5 rfl) ?_
  refine B3 rfl ?_
  refine A4 (A3 (A2 ?_))
  refine A5 rfl ?_
  refine A5 rfl ?_
  refine A1 rfl (o3 rfl (A0 rfl) (A0 rfl)) ?_
  refine A4 ?_
  refine C0 (A0 rfl) ?_ ?_
  ·intro h15
   refine A3 (A2 ?_)
   refine A1 rfl (A9 rfl E3) ?_
   refine A4 ?_
   refine B8 ?_
   exact E4 rfl (B7 rfl (by first | exact congrArg AV.bool (by rw [hinv.2, drop_some hx, List.any_cons, show (k == x) = true from by have h9 := h15; simp at h9 ⊢; exact h9.symm]; rfl) | exact congrArg AV.bool (by rw [hinv.2, List.drop_eq_nil_of_le hge]; rfl)))
  intro h15
  refine C1 (A2 ?_)
  refine A1 rfl (F1 rfl (A0 rfl) B4 (by first | omega | (simp only [D4, B0, szR] at *; omega))) ?_
  refine A5 rfl ?_
  refine A4 ?_
  refine I0 i (i + 1) ?_ ?_ (H1 ⟨rfl, rfl, rfl, rfl, trivial⟩)
  ·exact ⟨by omega, by rw [hinv.2, drop_some hx, List.any_cons, show (k == x) = false from by have h9 := h15; simp at h9 ⊢; exact fun e => h9 e.symm]; rfl⟩
  omega
 intro h10
 have k10 := of_decide_eq_false h10; try simp only [A6] at k10
 have hge : l.length ≤ i := by omega
 refine F5 ?_
 refine A3 (A2 ?_)
 refine A1 rfl (A9 rfl E3) ?_
 refine A4 ?_
 refine B8 ?_
 exact E4 rfl (B7 rfl (by first | exact congrArg AV.bool (by rw [hinv.2, drop_some hx, List.any_cons, show (k == x) = true from by have h9 := h15; simp at h9 ⊢; exact h9.symm]; rfl) | exact congrArg AV.bool (by rw [hinv.2, List.drop_eq_nil_of_le hge]; rfl)))
theorem apart_spec (h : THeld) (rs : List Str) (ws : List TWrite) : FSpec Tryz.prog 178 [AV.agg h.cs, strs rs, AV.list 3 (ws.map TWrite.cs)] (AV.bool (apart h rs ws)) := by
 refine D3 Tryz.func178 rfl Tryz.ntmps178 rfl ?_
 refine N7 (t := 1) rfl fun hl1 => ?_
 try simp only [A6] at hl1
 refine N7 (t := 2) rfl fun hl2 => ?_
 try simp only [A6] at hl2
 refine A3 (A2 ?_)
 refine I8 rfl rfl rfl rfl (A0 rfl) ?_
 intro b3
 refine A1 rfl (A9 rfl E3) ?_
 refine A4 (A3 (A3 (A2 ?_)))
 refine A5 rfl ?_
 refine A1 rfl (E9 rfl D5 (A0 rfl)) ?_
 refine A1 rfl (C2 rfl B4) ?_
 refine A4 (C4 ?_)
 refine H2 [(2, _), (3, _), (11, _), (12, _)] _ (fun (i : Nat) => i ≤ rs.length ∧ (rs.all fun k => !hasK h.Writes k) = ((rs.drop i).all fun k => !hasK h.Writes k)) (fun (i : Nat) => []) (fun (i : Nat) => [(13, AV.int i)]) (fun (i : Nat) => rs.length - i) (0) ?_ (H1 ⟨rfl, rfl, rfl, rfl, rfl, trivial⟩) ?_
 ·exact ⟨Nat.zero_le _, rfl⟩
 intro i hinv
 refine A3 (A2 ?_)
 refine A1 rfl (G0 rfl (A0 rfl) (A0 rfl)) ?_
 refine A4 (A3 ?_)
 refine C0 (A0 rfl) ?_ ?_
 ·intro h14
  have k14 := of_decide_eq_true h14; try simp only [A6] at k14
  have hlt : i < rs.length := by omega
  obtain ⟨x, hx⟩ := get_some hlt
  refine C1 (A3 (C4 (A3 (A2 ?_))))
  refine A1 rfl (I9 rfl D5 C6 (A0 rfl) (A0 rfl) hx (by first | omega | (simp only [D4, B0, szR] at *; omega))) ?_
  refine A1 rfl (J5 rfl (A0 rfl) E5 rfl) ?_
  refine B3 rfl ?_
  refine A4 (A3 (A2 ?_))
  refine A1 rfl (B2 4 rfl D8 rfl I7 (A0 rfl) rfl) ?_
  refine A1 rfl (B1 0 rfl (A0 rfl) rfl J7 rfl) ?_
  refine A5 rfl ?_
  refine A1 rfl (E1 rfl Tryz.call214 rfl (AL2 _ _) (A8 (A0 rfl) (A8 (A0 rfl) C7))) ?_
  refine A4 ?_
  refine C0 (A0 rfl) ?_ ?_
  ·intro h20
   have hfin : apart h rs ws = false := by (unfold apart; rw [hinv.2, drop_some hx, List.all_cons, h20]; rfl)
   refine A3 (A2 ?_)
   refine A1 rfl (A9 rfl E3) ?_
   refine A4 ?_
   refine B8 ?_
   exact E4 rfl (B7 rfl (by exact congrArg AV.bool hfin.symm))
  intro h20
  refine C1 (A2 ?_)
  refine A1 rfl (F1 rfl (A0 rfl) B4 (by first | omega | (simp only [D4, B0, szR] at *; omega))) ?_
  refine A5 rfl ?_
  refine A4 ?_
  refine I0 i (i + 1) ?_ ?_ (H1 ⟨rfl, rfl, rfl, rfl, rfl, trivial⟩)
  ·exact ⟨by omega, by rw [hinv.2, drop_some hx, List.all_cons, h20]; rfl⟩
  omega
 intro h14
 have k14 := of_decide_eq_false h14; try simp only [A6] at k14
 have hge : rs.length ≤ i := by omega
 have hr : (rs.all fun k => !hasK h.Writes k) = true := by (rw [hinv.2, List.drop_eq_nil_of_le hge]; rfl)
 refine F5 ?_
 refine A3 (A3 (A2 ?_))
 refine A5 rfl ?_
 refine A1 rfl (E9 rfl E7 (A0 rfl)) ?_
 refine A1 rfl (C2 rfl B4) ?_
 refine A4 (C4 ?_)
 refine H2 [(3, _), (22, _), (23, _)] _ (fun (q : Nat) => q ≤ ws.length ∧ (ws.all fun w => !(hasK h.Writes w.Key || hasS h.Reads w.Key)) = ((ws.drop q).all fun w => !(hasK h.Writes w.Key || hasS h.Reads w.Key))) (fun (q : Nat) => []) (fun (q : Nat) => [(24, AV.int q)]) (fun (q : Nat) => ws.length - q) (0) ?_ (H1 ⟨rfl, rfl, rfl, rfl, trivial⟩) ?_
 ·exact ⟨Nat.zero_le _, rfl⟩
 intro q hinv
 refine A3 (A2 ?_)
 refine A1 rfl (G0 rfl (A0 rfl) (A0 rfl)) ?_
 refine A4 (A3 ?_)
 refine C0 (A0 rfl) ?_ ?_
 ·intro h25
  have k25 := of_decide_eq_true h25; try simp only [A6] at k25
  have hlt : q < ws.length := by omega
  obtain ⟨x, hx⟩ := get_some hlt
  refine C1 (A3 (C4 (A3 (A2 ?_))))
  refine A1 rfl (I9 rfl E7 G1 (A0 rfl) (A0 rfl) hx (by first | omega | (simp only [D4, B0, szR] at *; omega))) ?_
  refine A1 rfl (H8 rfl (A0 rfl) P1 G1) ?_
  refine I1 rfl rfl rfl rfl Tryz.zeroValue101 rfl ?_
  intro b10
  refine H9 0 rfl rfl rfl (A0 rfl) (A0 rfl) (J4 _) rfl G1 rfl ?_
  refine A4 (A3 (A2 ?_))
  refine A1 rfl (B2 4 rfl D8 rfl I7 (A0 rfl) rfl) ?_
  refine A1 rfl (B1 1 rfl (A0 rfl) rfl J7 rfl) ?_
  refine A1 rfl (B2 0 rfl G2 rfl C6 (A0 rfl) rfl) ?_
  refine A1 rfl (B1 0 rfl (A0 rfl) rfl E5 rfl) ?_
  refine A1 rfl (E1 rfl Tryz.call214 rfl (AL2 _ _) (A8 (A0 rfl) (A8 (A0 rfl) C7))) ?_
  refine A5 rfl ?_
  refine H3 rfl (fun hc => B2 3 rfl D8 rfl K1 (A0 rfl) rfl) ?_
  refine H3 rfl (fun hc => B1 1 rfl (A7 rfl hc) rfl L6 rfl) ?_
  refine H3 rfl (fun hc => B2 0 rfl G2 rfl C6 (A0 rfl) rfl) ?_
  refine H3 rfl (fun hc => B1 0 rfl (A7 rfl hc) rfl E5 rfl) ?_
  refine H3 rfl (fun hc => E1 rfl Tryz.call215 rfl (Aj7 _ _) (A8 (A7 rfl hc) (A8 (A7 rfl hc) C7))) ?_
  refine A1 rfl (O1 rfl (A0 rfl) (F3 rfl)) ?_
  refine A4 ?_
  refine C0 (A0 rfl) ?_ ?_
  ·intro h39
   have hfin : apart h rs ws = false := by (unfold apart; rw [hinv.2, drop_some hx, List.all_cons, h39]; simp)
   refine A3 (A2 ?_)
   refine A1 rfl (A9 rfl E3) ?_
   refine A4 ?_
   refine B8 ?_
   exact E4 rfl (B7 rfl (by exact congrArg AV.bool hfin.symm))
  intro h39
  refine C1 (A2 ?_)
  refine A1 rfl (F1 rfl (A0 rfl) B4 (by first | omega | (simp only [D4, B0, szR] at *; omega))) ?_
  refine A5 rfl ?_
  refine A4 ?_
  refine I0 q (q + 1) ?_ ?_ (S3 1 ⟨rfl, rfl, rfl, rfl, trivial⟩)
  ·exact ⟨by omega, by rw [hinv.2, drop_some hx, List.all_cons, h39]; rfl⟩
  omega
 intro h25
 have k25 := of_decide_eq_false h25; try simp only [A6] at k25
 have hge : ws.length ≤ q := by omega
 have hfin : apart h rs ws = true := by (unfold apart; rw [hr, hinv.2, List.drop_eq_nil_of_le hge]; rfl)
 refine F5 ?_
 refine A3 (A2 ?_)
 refine A1 rfl (A9 rfl E3) ?_
 refine A4 ?_
 refine B8 ?_
 exact E4 rfl (B7 rfl (by exact congrArg AV.bool hfin.symm))
theorem Ad4 (l : List THeld) (q : Nat) : (hWs (l.take q)).length ≤ (hWs l).length := by
  have h := AK3 (l.take q) (l.drop q)
  rw [List.take_append_drop] at h
  rw [h, I6]; omega
theorem Aj8 (s : TState) (ws : List TWrite) (hs : s.size ≤ 1048576) (hb : s.Cells.length + ws.length + (hWs s.Held).length ≤ 800000) : FSpec Tryz.prog 179 [AV.agg s.cs, AV.list 3 (ws.map TWrite.cs)] (AV.bool (room s.Cells (ws ++ hWs s.Held))) := by
 obtain ⟨hs1, hs2, hs3, hs4, hs5⟩ := Z4 hs
 obtain ⟨p, hp⟩ : ∃ p : TWrite → Bool, p = fun w => !fullC s.Cells w.Key := ⟨_, rfl⟩
 obtain ⟨al, hal⟩ : ∃ al, ws ++ hWs s.Held = al := ⟨_, rfl⟩
 have hall : al.length ≤ 800000 - s.Cells.length := by rw [← hal, I6]; omega
 rw [hal]
 refine D3 Tryz.func179 rfl Tryz.ntmps179 rfl ?_
 refine A3 (A2 ?_)
 refine I8 rfl rfl rfl rfl (A0 rfl) ?_
 intro b2
 refine A1 rfl (A9 rfl E3) ?_
 refine A4 (A3 (A2 ?_))
 refine Al5 9 1 rfl rfl rfl rfl S2 ?_
 intro v5
 refine A4 (A3 (A3 (A2 ?_)))
 refine A1 rfl (B2 1 rfl E2 rfl K5 (A0 rfl) rfl) ?_
 refine A1 rfl (B1 1 rfl (A0 rfl) rfl N1 rfl) ?_
 refine A1 rfl (E9 rfl F0 (A0 rfl)) ?_
 refine A1 rfl (C2 rfl B4) ?_
 refine A4 (C4 ?_)
 refine J8 [(1, _), (2, _), (4, _), (15, _), (16, _)] _ (fun (i : Nat) (v : Value) => i ≤ s.Cells.length) (fun (i : Nat) (v : Value) => [.arr v 9 1 ((putAllS (cKeys (s.Cells.take i)) []).map fun s => [AV.str s])]) (fun (i : Nat) (v : Value) => [(5, AV.is v), (17, AV.int i)]) (fun (i : Nat) (v : Value) => s.Cells.length - i) (0) (v5) ?_ (K7 (by rfl) ⟨rfl, rfl, rfl, rfl, rfl, rfl, rfl, trivial⟩) ?_
 ·exact Nat.zero_le _
 intro i v hinv
 refine A3 (A2 ?_)
 refine A1 rfl (G0 rfl (A0 rfl) (A0 rfl)) ?_
 refine A4 (A3 ?_)
 refine C0 (A0 rfl) ?_ ?_
 ·intro h18
  have k18 := of_decide_eq_true h18; try simp only [A6] at k18
  have hlt : i < s.Cells.length := by omega
  obtain ⟨c, hx⟩ := get_some hlt
  have hpl := t6 (cKeys (s.Cells.take i)) []
  unfold cKeys at hpl
  simp only [A6, F4, X3] at hpl
  refine C1 (A3 (C4 (A3 (A2 ?_))))
  refine A1 rfl (I9 rfl F0 E8 (A0 rfl) (A0 rfl) hx (by first | omega | (simp only [D4, B0, szR] at *; omega))) ?_
  refine A1 rfl (H8 rfl (A0 rfl) L9 E8) ?_
  refine I1 rfl rfl rfl rfl Tryz.zeroValue125 rfl ?_
  intro b7
  refine H9 0 rfl rfl rfl (A0 rfl) (A0 rfl) (J4 _) rfl E8 rfl ?_
  refine A4 (A2 ?_)
  refine A5 rfl ?_
  refine A1 rfl (B2 0 rfl F2 rfl C6 (A0 rfl) rfl) ?_
  refine A1 rfl (B1 0 rfl (A0 rfl) rfl E5 rfl) ?_
  refine Q8 [1] rfl rfl rfl rfl Tryz.call169 rfl (AL0 v (putAllS (cKeys (s.Cells.take i)) []) c.Key (l9 List.Pairwise.nil).1 (by unfold cKeys; omega)) (A8 (A0 rfl) (A8 (A0 rfl) C7)) rfl ?_
  intro x24 ok24
  refine B3 rfl ?_
  refine A4 (A2 ?_)
  refine A1 rfl (F1 rfl (A0 rfl) B4 (by first | omega | (simp only [D4, B0, szR] at *; omega))) ?_
  refine A5 rfl ?_
  refine A4 ?_
  refine J2 i v (i + 1) (x24) ?_ ?_ (Le.trans (Q3 [1, 0] rfl) (S5 1 (by exact congrArg (fun z => Own.arr _ 9 1 (List.map (fun s => [AV.str s]) z) :: _) (by unfold cKeys; rw [List.take_add_one, hx, List.map_append]; exact (AC5 _ _ _).symm)) ⟨rfl, rfl, rfl, rfl, rfl, rfl, rfl, trivial⟩))
  ·omega
  omega
 intro h18
 have k18 := of_decide_eq_false h18; try simp only [A6] at k18
 have hge : s.Cells.length ≤ i := by omega
 rw [List.take_of_length_le hge]
 refine F5 ?_
 refine A3 (A2 ?_)
 refine W9 rfl rfl rfl rfl E7 G1 ?_
 intro v26
 refine A5 rfl ?_
 refine U8 (by' := 40) 0 rfl rfl rfl rfl E7 Tryz.type101 rfl rfl rfl rfl rfl rfl (A0 rfl) (A0 rfl) rfl (by simp only [X3, A6]; omega) ?_
 intro v28_1
 refine B3 rfl ?_
 refine A4 (A3 (A3 (A2 ?_)))
 refine A1 rfl (B2 2 rfl E2 rfl M1 (A0 rfl) rfl) ?_
 refine A1 rfl (B1 2 rfl (A0 rfl) rfl Q1 rfl) ?_
 refine A1 rfl (E9 rfl F6 (A0 rfl)) ?_
 refine A1 rfl (C2 rfl B4) ?_
 refine A4 (C4 ?_)
 refine Y8 [(2, _), (4, _), (5, _), (30, _), (31, _)] _ (fun (q : Nat) (u : Value) (a : List TWrite) => q ≤ s.Held.length ∧ a = ws ++ hWs (s.Held.take q)) (fun (q : Nat) (u : Value) (a : List TWrite) => [.arr u 101 3 (a.map TWrite.cs)]) (fun (q : Nat) (u : Value) (a : List TWrite) => [(8, AV.is u), (32, AV.int q)]) (fun (q : Nat) (u : Value) (a : List TWrite) => s.Held.length - q) (0) (v28_1) (ws) ?_ (K7 (by rfl) ⟨rfl, rfl, rfl, rfl, rfl, rfl, rfl, trivial⟩) ?_
 ·exact ⟨Nat.zero_le _, by rw [List.take_zero]; exact (List.append_nil _).symm⟩
 intro q u a hinv
 refine A3 (A2 ?_)
 refine A1 rfl (G0 rfl (A0 rfl) (A0 rfl)) ?_
 refine A4 (A3 ?_)
 refine C0 (A0 rfl) ?_ ?_
 ·intro h33
  have k33 := of_decide_eq_true h33; try simp only [A6] at k33
  have hlt : q < s.Held.length := by omega
  obtain ⟨h, hx⟩ := get_some hlt
  obtain ⟨g1, g2, g3, g4, g5⟩ := m8 hs2 hx
  have hwt := Ad4 s.Held q
  have hal9 : a.length ≤ 800000 := by (rw [hinv.2, I6]; omega)
  refine C1 (A3 (C4 (A3 (A2 ?_))))
  refine A1 rfl (I9 rfl F6 E6 (A0 rfl) (A0 rfl) hx (by first | omega | (simp only [D4, B0, szR] at *; omega))) ?_
  refine A1 rfl (H8 rfl (A0 rfl) K4 E6) ?_
  refine I1 rfl rfl rfl rfl Tryz.zeroValue141 rfl ?_
  intro b10
  refine H9 0 rfl rfl rfl (A0 rfl) (A0 rfl) (J4 _) rfl E6 rfl ?_
  refine A4 (A2 ?_)
  refine A5 rfl ?_
  refine A1 rfl (B2 4 rfl D8 rfl I7 (A0 rfl) rfl) ?_
  refine A1 rfl (B1 0 rfl (A0 rfl) rfl J7 rfl) ?_
  refine U8 (by' := 40) 1 rfl rfl rfl rfl E7 Tryz.type101 rfl rfl rfl rfl rfl rfl (A0 rfl) (A0 rfl) rfl (by simp only [I6, A6]; omega) ?_
  intro v39_2
  refine B3 rfl ?_
  refine A4 (A2 ?_)
  refine A1 rfl (F1 rfl (A0 rfl) B4 (by first | omega | (simp only [D4, B0, szR] at *; omega))) ?_
  refine A5 rfl ?_
  refine A4 ?_
  refine X7 q u a (q + 1) (v39_2) (a ++ h.Writes) ?_ ?_ (Le.trans (Q3 [0, 0] rfl) (S5 1 (by (rw [List.map_append]; rfl)) ⟨rfl, rfl, rfl, rfl, rfl, rfl, rfl, trivial⟩))
  ·exact ⟨by omega, by rw [hinv.2, AY8 hx, List.append_assoc]⟩
  omega
 intro h33
 have k33 := of_decide_eq_false h33; try simp only [A6] at k33
 have hge : s.Held.length ≤ q := by omega
 have ha9 : a = al := by (rw [hinv.2, List.take_of_length_le hge, hal])
 subst ha9
 refine F5 ?_
 refine A3 (A3 (A2 ?_))
 refine A5 rfl ?_
 refine A1 rfl (V3 0 rfl E7 (A0 rfl) rfl) ?_
 refine A1 rfl (C2 rfl B4) ?_
 refine A4 (C4 ?_)
 refine AWP.le (Q3 [1] rfl) ?_
 refine Y8 [(2, _), (41, _), (42, _)] _ (fun (r : Nat) (v2 : Value) (ks : List Str) => r ≤ a.length ∧ a.all p = (a.drop r).all p ∧ ks = putAllS (cKeys s.Cells ++ wKeys (a.take r)) []) (fun (r : Nat) (v2 : Value) (ks : List Str) => [.arr v2 9 1 (ks.map fun s => [AV.str s])]) (fun (r : Nat) (v2 : Value) (ks : List Str) => [(5, AV.is v2), (43, AV.int r)]) (fun (r : Nat) (v2 : Value) (ks : List Str) => a.length - r) (0) (v) (putAllS (cKeys s.Cells) []) ?_ (K7 (by rfl) ⟨rfl, rfl, rfl, rfl, rfl, trivial⟩) ?_
 ·exact ⟨Nat.zero_le _, rfl, by rw [List.take_zero]; exact congrArg (fun z => putAllS z []) (List.append_nil _).symm⟩
 intro r v2 ks hinv
 refine A3 (A2 ?_)
 refine A1 rfl (G0 rfl (A0 rfl) (A0 rfl)) ?_
 refine A4 (A3 ?_)
 refine C0 (A0 rfl) ?_ ?_
 ·intro h44
  have k44 := of_decide_eq_true h44; try simp only [A6] at k44
  have hlt : r < a.length := by omega
  obtain ⟨w, hx⟩ := get_some hlt
  obtain ⟨c, hc0⟩ := at_some s.Cells w.Key
  have hfu := fullC_at (l := s.Cells) (k := w.Key) (c := c) (fun h9 => (hc0 h9).2)
  have hpl := t6 (cKeys s.Cells ++ wKeys (a.take r)) []
  unfold cKeys wKeys at hpl
  simp only [I6, A6, F4, X3] at hpl
  refine C1 (A3 (C4 (A3 (A2 ?_))))
  refine A1 rfl (L0 1 rfl E7 G1 (A0 rfl) rfl (A0 rfl) (by omega) (by try simp only [A6]; omega)) ?_
  refine A1 rfl (AE0 1 rfl (A0 rfl) rfl P1 G1 (by rw [Int.toNat_natCast, List.getElem?_map, hx]; rfl) (by decide)) ?_
  refine I1 rfl rfl rfl rfl Tryz.zeroValue101 rfl ?_
  intro b12
  refine H9 0 rfl rfl rfl (A0 rfl) (A0 rfl) (J4 _) rfl G1 rfl ?_
  refine A4 (A3 (A2 ?_))
  refine A5 rfl ?_
  refine A1 rfl (B2 0 rfl G2 rfl C6 (A0 rfl) rfl) ?_
  refine A1 rfl (B1 0 rfl (A0 rfl) rfl E5 rfl) ?_
  refine Q8 [1] rfl rfl rfl rfl Tryz.call169 rfl (AL0 v2 ks w.Key (by rw [hinv.2.2]; exact (l9 List.Pairwise.nil).1) (by rw [hinv.2.2]; unfold cKeys wKeys; omega)) (A8 (A0 rfl) (A8 (A0 rfl) C7)) rfl ?_
  intro x50 ok50
  refine B3 rfl ?_
  refine A4 (A3 (A2 ?_))
  refine A1 rfl (B2 1 rfl E2 rfl K5 (A0 rfl) rfl) ?_
  refine A1 rfl (B1 3 rfl (A0 rfl) rfl N1 rfl) ?_
  refine A1 rfl (B2 0 rfl G2 rfl C6 (A0 rfl) rfl) ?_
  refine A1 rfl (B1 1 rfl (A0 rfl) rfl E5 rfl) ?_
  refine A1 rfl (E1 rfl Tryz.call180 rfl (AR0 _ _) (A8 (A0 rfl) (A8 (A0 rfl) C7))) ?_
  refine B3 rfl ?_
  refine A4 (A3 (A2 ?_))
  refine A5 rfl ?_
  refine A1 rfl (X1 rfl (A0 rfl) B4) ?_
  refine A5 rfl ?_
  refine D1 rfl (fun hc => B2 1 rfl E2 rfl K5 (A0 rfl) rfl) ?_
  refine D1 rfl (fun hc => B1 3 rfl (A7 rfl hc) rfl N1 rfl) ?_
  refine D1 rfl (fun hc => C2 rfl (A0 rfl)) ?_
  refine D1 rfl (fun hc => O7 rfl F0 E8 (A7 rfl hc) (A7 rfl hc) (by have h9 := of_decide_eq_true hc; obtain ⟨⟨p9, e1, e2⟩, _⟩ := hc0 (by omega); have := (List.getElem?_eq_some_iff.1 e2).1; omega) (by have h9 := of_decide_eq_true hc; obtain ⟨⟨p9, e1, e2⟩, _⟩ := hc0 (by omega); rw [e1, Int.toNat_natCast, List.getElem?_map, e2]; rfl)) ?_
  refine D1 rfl (fun hc => Q2 rfl F2 rfl K2 (A7 rfl hc) rfl) ?_
  refine D1 rfl (fun hc => J5 rfl (A7 rfl hc) M0 rfl) ?_
  refine D1 rfl (fun hc => E9 rfl G5 (A7 rfl hc)) ?_
  refine D1 rfl (fun hc => X1 rfl (A7 rfl hc) B4) ?_
  refine A1 rfl (H5 rfl (A0 rfl) (F3 rfl)) ?_
  refine A4 ?_
  refine C0 (A0 rfl) ?_ ?_
  ·intro h67
   have hpw : p w = false := by (rw [hp]; simp only [Bool.not_eq_false']; rw [hfu]; rw [A6] at h67; exact h67)
   have hro : room s.Cells a = false := by (unfold room; rw [show (a.all fun w => !fullC s.Cells w.Key) = false from by rw [← hp, hinv.2.1, drop_some hx, List.all_cons, hpw]; rfl]; rfl)
   refine A3 (A2 ?_)
   refine A1 rfl (A9 rfl E3) ?_
   refine A4 ?_
   refine B8 ?_
   exact E4 rfl (B7 rfl (by first | exact congrArg AV.bool hro.symm | exact congrArg AV.bool (by rw [hro]; simp only [A6]; rw [decide_eq_decide]; omega)))
  intro h67
  have hpw : p w = true := by (rw [hp]; simp only [Bool.not_eq_true']; rw [hfu]; rw [A6] at h67; exact h67)
  refine C1 (A2 ?_)
  refine A1 rfl (F1 rfl (A0 rfl) B4 (by first | omega | (simp only [D4, B0, szR] at *; omega))) ?_
  refine A5 rfl ?_
  refine A4 ?_
  refine X7 r v2 ks (r + 1) (x50) (putS ks w.Key) ?_ ?_ (Le.trans (Q3 [1, 0] rfl) (S5 1 (by rfl) ⟨rfl, rfl, rfl, rfl, rfl, trivial⟩))
  ·exact ⟨by omega, by rw [hinv.2.1, drop_some hx, List.all_cons, hpw]; rfl, by rw [hinv.2.2]; unfold wKeys; rw [List.take_add_one, hx, List.map_append, ← List.append_assoc]; exact (AC5 _ _ _).symm⟩
  omega
 intro h44
 have k44 := of_decide_eq_false h44; try simp only [A6] at k44
 have hge : a.length ≤ r := by omega
 have hks := hinv.2.2
 rw [List.take_of_length_le hge] at hks
 have hro : room s.Cells a = decide (ks.length ≤ 24) := by (unfold room roomKs; rw [← hp, hinv.2.1, List.drop_eq_nil_of_le hge, An7, ← hks]; rfl)
 refine F5 ?_
 refine A3 (A2 ?_)
 refine A5 rfl ?_
 refine A1 rfl (V3 0 rfl D5 (A0 rfl) rfl) ?_
 refine A1 rfl (R7 rfl (A0 rfl) B4) ?_
 refine B3 rfl ?_
 refine A4 ?_
 refine B8 ?_
 exact E4 rfl (B7 rfl (by first | exact congrArg AV.bool hro.symm | exact congrArg AV.bool (by rw [hro]; simp only [A6]; rw [decide_eq_decide]; omega)))
theorem AR3 : ∀ {l : List THeld}, (∀ h ∈ l, goodRec (hRec h) = true) → (hWs l).length ≤ 400 * l.length
  | [], _ => Nat.le_refl _
  | h :: l, hg => by
    have ih := AR3 fun k hk => hg k (List.mem_cons_of_mem h hk)
    have h1 := AT4 (hg h List.mem_cons_self)
    have h4 := L1 (f := TWrite.size) (l := h.Writes)
    have h2 : (hRec h).size = sizeL (fun x => x.length) h.Reads + sizeL TWrite.size h.Writes := rfl
    rw [p4, I6, J9]; omega
theorem Aj9 {s : TState} (h : allB s.Held.length (heldAt s) = true) : ∀ k ∈ s.Held, goodRec (hRec k) = true := fun k hk => by
  obtain ⟨i, hi⟩ := List.getElem?_of_mem hk
  have h9 := a7.1 h i (List.getElem?_eq_some_iff.1 hi).1
  unfold heldAt at h9
  rw [hi] at h9
  simp only [Bool.and_eq_true] at h9
  exact h9.1.1.1.1
theorem AZ5 (s : TState) (n : Int) (hlen : s.Held.length ≤ 1048576) : FSpec Tryz.prog 128 [AV.agg s.cs, AV.int n] (AV.tup [AV.agg (heldFO s.Held n).1.cs, AV.bool (heldFO s.Held n).2]) := by
 obtain ⟨l, hl⟩ : ∃ l, s.Held = l := ⟨_, rfl⟩
 have hcs : s.cs = [AV.int s.Floor, AV.list 2 (s.Cells.map TCell.cs), AV.list 5 (l.map THeld.cs), AV.list 3 (s.Told.map TTold.cs)] := by rw [← hl]; rfl
 rw [hl] at hlen
 rw [hl, hcs]
 refine D3 Tryz.func128 rfl Tryz.ntmps128 rfl ?_
 refine A3 (A2 ?_)
 refine I8 rfl rfl rfl rfl (A0 rfl) ?_
 intro b2
 refine I1 rfl rfl rfl rfl Tryz.zeroValue141 rfl ?_
 intro b4
 refine A1 rfl (A9 rfl E3) ?_
 refine A4 (A3 (A3 (A2 ?_)))
 refine A1 rfl (B2 2 rfl E2 rfl M1 (A0 rfl) rfl) ?_
 refine A1 rfl (B1 1 rfl (A0 rfl) rfl Q1 rfl) ?_
 refine A1 rfl (E9 rfl F6 (A0 rfl)) ?_
 refine A1 rfl (C2 rfl B4) ?_
 refine A4 (C4 ?_)
 refine H2 [(1, _), (4, _), (9, _), (10, _)] _ (fun (i : Nat) => i ≤ l.length ∧ ∀ j y, j < i → l[j]? = some y → (y.Txn == n) = false) (fun (i : Nat) => []) (fun (i : Nat) => [(11, AV.int i)]) (fun (i : Nat) => l.length - i) (0) ?_ (H1 ⟨rfl, rfl, rfl, rfl, rfl, trivial⟩) ?_
 ·exact ⟨Nat.zero_le _, fun j y hj => by omega⟩
 intro i hinv
 refine A3 (A2 ?_)
 refine A1 rfl (G0 rfl (A0 rfl) (A0 rfl)) ?_
 refine A4 (A3 ?_)
 refine C0 (A0 rfl) ?_ ?_
 ·intro h12
  have k12 := of_decide_eq_true h12; try simp only [A6] at k12
  have hlt : i < l.length := by omega
  obtain ⟨x, hx⟩ := get_some hlt
  refine C1 (A3 (C4 (A3 (A2 ?_))))
  refine A1 rfl (I9 rfl F6 E6 (A0 rfl) (A0 rfl) hx (by first | omega | (simp only [D4, B0, szR] at *; omega))) ?_
  refine A1 rfl (H8 rfl (A0 rfl) K4 E6) ?_
  refine I1 rfl rfl rfl rfl Tryz.zeroValue141 rfl ?_
  intro b7
  refine H9 0 rfl rfl rfl (A0 rfl) (A0 rfl) (J4 _) rfl E6 rfl ?_
  refine A4 (A3 (A2 ?_))
  refine A1 rfl (B2 0 rfl D8 rfl B9 (A0 rfl) rfl) ?_
  refine A1 rfl (B1 0 rfl (A0 rfl) rfl D2 rfl) ?_
  refine A5 rfl ?_
  refine A1 rfl (P8 rfl (A0 rfl) (A0 rfl)) ?_
  refine A4 ?_
  refine C0 (A0 rfl) ?_ ?_
  ·intro h18
   have k18 := T0 h18; try simp only [A6] at k18
   have he : heldFO l n = (x, true) := by (unfold heldFO findH; rw [AL1 hx h18 hinv.2])
   rw [he]
   refine A3 (A2 ?_)
   refine A1 rfl (K8 0 rfl (A0 rfl) rfl K4 E6 rfl) ?_
   refine H9 1 rfl rfl rfl (A0 rfl) (A0 rfl) (J4 _) rfl E6 rfl ?_
   refine A1 rfl (A9 rfl E3) ?_
   refine A4 ?_
   refine B8 ?_
   exact s6 rfl (by decide) (N8 (V2 (ys := _) 1 rfl rfl K4 E6 rfl) (N8 (B7 rfl (by rfl)) W6))
  intro h18
  have k18 := S9 h18; try simp only [A6] at k18
  refine C1 (A2 ?_)
  refine A1 rfl (F1 rfl (A0 rfl) B4 (by first | omega | (simp only [D4, B0, szR] at *; omega))) ?_
  refine A5 rfl ?_
  refine A4 ?_
  refine I0 i (i + 1) ?_ ?_ (S3 1 ⟨rfl, rfl, rfl, rfl, rfl, trivial⟩)
  ·exact ⟨by omega, fun j y hj hy => if hji : j < i then hinv.2 j y hji hy else (by have e : j = i := (by omega); subst e; rw [hx] at hy; injection hy with hy; subst hy; exact h18)⟩
  omega
 intro h12
 have k12 := of_decide_eq_false h12; try simp only [A6] at k12
 have hge : l.length ≤ i := by omega
 have he : heldFO l n = (zHeld, false) := by (unfold heldFO findH; rw [find_not fun j y hy => hinv.2 j y (Nat.lt_of_lt_of_le (List.getElem?_eq_some_iff.1 hy).1 hge) hy])
 rw [he]
 refine F5 ?_
 refine A3 (A2 ?_)
 refine A1 rfl (u4 (places := #[(0, 1), (1, 1), (2, 1), (3, 1), (4, 1)]) rfl D8 Tryz.zeroValue141 (fun w => by kernel_rfl) rfl W7 rfl) ?_
 refine H9 0 rfl rfl rfl (A0 rfl) (A0 rfl) (J4 _) rfl E6 rfl ?_
 refine A1 rfl (A9 rfl E3) ?_
 refine A4 ?_
 refine B8 ?_
 refine AG0 0 3 1 rfl rfl ?_
 refine AG0 0 4 3 rfl rfl ?_
 exact s6 rfl (by decide) (N8 (V2 (ys := _) 0 rfl rfl K4 E6 rfl) (N8 (B7 rfl (by rfl)) W6))
theorem AT6 (s : TState) (ho : CellsOk s.Cells) (hcl : s.Cells.length ≤ 400000) (hs : s.size ≤ 1048576) : FSpec Tryz.prog 126 [AV.agg s.cs] (AV.bool (areHeld s)) := by
 obtain ⟨hs1, hs2, hs3, hs4, hs5⟩ := Z4 hs
 refine D3 Tryz.func126 rfl Tryz.ntmps126 rfl ?_
 refine A3 (A2 ?_)
 refine I8 rfl rfl rfl rfl (A0 rfl) ?_
 intro b1
 refine A1 rfl (A9 rfl E3) ?_
 refine A4 (A3 (A3 (A2 ?_)))
 refine A1 rfl (B2 2 rfl E2 rfl M1 (A0 rfl) rfl) ?_
 refine A1 rfl (B1 0 rfl (A0 rfl) rfl Q1 rfl) ?_
 refine A1 rfl (E9 rfl F6 (A0 rfl)) ?_
 refine A1 rfl (C2 rfl B4) ?_
 refine A4 (C4 ?_)
 refine H2 [(1, _), (10, _), (11, _)] _ (fun (i : Nat) => i ≤ s.Held.length ∧ ∀ j, j < i → heldAt s j = true) (fun (i : Nat) => []) (fun (i : Nat) => [(12, AV.int i)]) (fun (i : Nat) => s.Held.length - i) (0) ?_ (H1 ⟨rfl, rfl, rfl, rfl, trivial⟩) ?_
 ·exact ⟨Nat.zero_le _, fun j hj => by omega⟩
 intro i hinv
 refine A3 (A2 ?_)
 refine A1 rfl (G0 rfl (A0 rfl) (A0 rfl)) ?_
 refine A4 (A3 ?_)
 refine C0 (A0 rfl) ?_ ?_
 ·intro h13
  have k13 := of_decide_eq_true h13; try simp only [A6] at k13
  have hlt : i < s.Held.length := by omega
  obtain ⟨h, hx⟩ := get_some hlt
  obtain ⟨y, hy⟩ := get_some (show i - 1 < s.Held.length by omega)
  obtain ⟨g1, g2, g3, g4, g5⟩ := m8 hs2 hx
  have hinv0 := hinv
  refine C1 (A3 (C4 (A3 (A2 ?_))))
  refine A5 rfl ?_
  refine A1 rfl (I9 rfl F6 E6 (A0 rfl) (A0 rfl) hx (by first | omega | (simp only [D4, B0, szR] at *; omega))) ?_
  refine A1 rfl (H8 rfl (A0 rfl) K4 E6) ?_
  refine I1 rfl rfl rfl rfl Tryz.zeroValue141 rfl ?_
  intro b4
  refine B3 rfl ?_
  refine H9 0 rfl rfl rfl (A0 rfl) (A0 rfl) (J4 _) rfl E6 rfl ?_
  refine A4 (A3 (A3 ?_))
  refine H7 (by kernel_rfl) (by kernel_rfl) rfl ?_
  refine B5 rfl rfl (K8 0 rfl (A0 rfl) rfl K4 E6 rfl) ?_
  refine B5 rfl rfl (E1 rfl Tryz.call177 rfl (AT5 _) (A8 (A0 rfl) C7)) ?_
  refine B5 rfl rfl (E1 rfl Tryz.call106 rfl (Ad2 _ (by first | assumption | omega)) (A8 (A0 rfl) C7)) ?_
  refine B5 rfl rfl (J3 rfl (A0 rfl)) ?_
  refine B5 rfl rfl (C2 rfl (A0 rfl)) ?_
  refine D9 rfl (G6 rfl rfl rfl) (fun hc => B2 1 rfl D8 rfl B9 (A0 rfl) rfl) ?_
  refine D9 rfl (G6 rfl rfl rfl) (fun hc => B1 0 rfl (A7 rfl hc) rfl D2 rfl) ?_
  refine D9 rfl (G6 rfl rfl rfl) (fun hc => B2 0 rfl E2 rfl B9 (A0 rfl) rfl) ?_
  refine D9 rfl (G6 rfl rfl rfl) (fun hc => B1 1 rfl (A7 rfl hc) rfl D2 rfl) ?_
  refine D9 rfl (G6 rfl rfl rfl) (fun hc => R4 rfl (A7 rfl hc) (A7 rfl hc)) ?_
  refine B5 rfl rfl (O1 rfl (A0 rfl) (F3 rfl)) ?_
  refine B5 rfl rfl (C2 rfl (A0 rfl)) ?_
  refine D9 rfl (G6 rfl rfl rfl) (fun hc => C2 rfl (A0 rfl)) ?_
  refine D9 rfl (G6 rfl rfl rfl) (fun hc => R4 rfl (A7 rfl hc) B4) ?_
  refine D9 rfl (G6 rfl rfl rfl) (fun hc => C2 rfl (A7 rfl hc)) ?_
  refine D9 rfl (D7 rfl rfl rfl) (fun hc => B2 2 rfl E2 rfl M1 (A0 rfl) rfl) ?_
  refine D9 rfl (D7 rfl rfl rfl) (fun hc => B1 1 rfl (A7 rfl hc) rfl Q1 rfl) ?_
  refine D9 rfl (D7 rfl rfl rfl) (fun hc => C2 rfl (A0 rfl)) ?_
  refine D9 rfl (D7 rfl rfl rfl) (fun hc => P4 rfl (A7 rfl hc) B4 (by first | omega | ((try simp only [D4, B0, szR] at *); omega) | (have hc2 := hc; simp only [O6, beq_iff_eq, bne_iff_ne, A6, F4] at hc2; omega))) ?_
  refine D9 rfl (D7 rfl rfl rfl) (fun hc => I9 rfl F6 E6 (A7 rfl hc) (A7 rfl hc) hy (by first | omega | ((try simp only [D4, B0, szR] at *); omega) | (have hc2 := hc; simp only [O6, beq_iff_eq, bne_iff_ne, A6, F4] at hc2; omega))) ?_
  refine D9 rfl (D7 rfl rfl rfl) (fun hc => Q2 rfl D8 rfl B9 (A7 rfl hc) rfl) ?_
  refine D9 rfl (D7 rfl rfl rfl) (fun hc => J5 rfl (A7 rfl hc) D2 rfl) ?_
  refine D9 rfl (D7 rfl rfl rfl) (fun hc => B2 0 rfl D8 rfl B9 (A0 rfl) rfl) ?_
  refine D9 rfl (D7 rfl rfl rfl) (fun hc => B1 0 rfl (A7 rfl hc) rfl D2 rfl) ?_
  refine D9 rfl (D7 rfl rfl rfl) (fun hc => X1 rfl (A7 rfl hc) (A7 rfl hc)) ?_
  refine D9 rfl (G6 rfl rfl rfl) (fun hc => H5 rfl (A7 rfl hc) (N2 rfl hc)) ?_
  refine B5 rfl rfl (O1 rfl (A0 rfl) (F3 rfl)) ?_
  refine O5 ?_
  refine C0 (A0 rfl) ?_ ?_
  ·intro h43
   have hfin : areHeld s = false := by (unfold areHeld; rw [T8 hlt (by rw [n9 hx hy, h43]; rfl)]; rfl)
   refine A3 (A2 ?_)
   refine A1 rfl (A9 rfl E3) ?_
   refine A4 ?_
   refine B8 ?_
   exact E4 rfl (B7 rfl (by first | exact congrArg AV.bool hfin.symm | exact congrArg AV.bool (by unfold areHeld; rw [hall, Bool.true_and, List.nil_append, A6]; congr 1; rw [decide_eq_decide]; omega)))
  intro h43
  refine C1 (A3 (A3 (A2 ?_)))
  refine A1 rfl (B2 2 rfl E2 rfl M1 (A0 rfl) rfl) ?_
  refine A1 rfl (B1 1 rfl (A0 rfl) rfl Q1 rfl) ?_
  refine A5 rfl ?_
  refine A1 rfl (AO9 rfl F6 E6 (A0 rfl) (A0 rfl) (by first | omega | (simp only [D4, B0, szR] at *; omega)) (by first | omega | (simp only [D4, B0, szR] at *; omega))) ?_
  refine A1 rfl (E9 rfl F6 (A0 rfl)) ?_
  refine A1 rfl (C2 rfl B4) ?_
  refine A4 (C4 ?_)
  refine H2 [(1, _), (3, _), (4, _), (10, _), (11, _), (12, _), (13, _), (14, _), (15, _), (16, _), (17, _), (18, _), (19, _), (20, _), (21, _), (27, _), (28, _), (43, _), (44, _), (45, _), (46, _), (47, _), (48, _)] _ (fun (q : Nat) => q ≤ (s.Held.take i).length ∧ ((s.Held.take i).all fun g => apart g h.Reads h.Writes) = (((s.Held.take i).drop q).all fun g => apart g h.Reads h.Writes)) (fun (q : Nat) => []) (fun (q : Nat) => [(49, AV.int q)]) (fun (q : Nat) => (s.Held.take i).length - q) (0) ?_ (H1 ⟨rfl, rfl, rfl, rfl, rfl, rfl, rfl, rfl, rfl, rfl, rfl, rfl, rfl, rfl, rfl, rfl, rfl, rfl, rfl, rfl, rfl, rfl, rfl, rfl, trivial⟩) ?_
  ·exact ⟨Nat.zero_le _, rfl⟩
  intro q hinv
  refine A3 (A2 ?_)
  refine A1 rfl (G0 rfl (A0 rfl) (A0 rfl)) ?_
  refine A4 (A3 ?_)
  refine C0 (A0 rfl) ?_ ?_
  ·intro h50
   have k50 := of_decide_eq_true h50; try simp only [A6] at k50
   have hlt2 : q < (s.Held.take i).length := by (simp only [F4, A6, Int.toNat_natCast] at k50 ⊢; omega)
   obtain ⟨k, hx2⟩ := get_some hlt2
   refine C1 (A3 (C4 (A3 (A2 ?_))))
   refine A1 rfl (I9 rfl F6 E6 (A0 rfl) (A0 rfl) hx2 (by first | omega | (simp only [D4, B0, szR] at *; omega))) ?_
   refine A1 rfl (H8 rfl (A0 rfl) K4 E6) ?_
   refine I1 rfl rfl rfl rfl Tryz.zeroValue141 rfl ?_
   intro b6
   refine H9 0 rfl rfl rfl (A0 rfl) (A0 rfl) (J4 _) rfl E6 rfl ?_
   refine A4 (A3 (A2 ?_))
   refine A1 rfl (K8 0 rfl (A0 rfl) rfl K4 E6 rfl) ?_
   refine A1 rfl (B2 3 rfl D8 rfl K1 (A0 rfl) rfl) ?_
   refine A1 rfl (B1 1 rfl (A0 rfl) rfl L6 rfl) ?_
   refine A1 rfl (B2 4 rfl D8 rfl I7 (A0 rfl) rfl) ?_
   refine A1 rfl (B1 1 rfl (A0 rfl) rfl J7 rfl) ?_
   refine A1 rfl (E1 rfl Tryz.call178 rfl (apart_spec _ _ _) (A8 (A0 rfl) (A8 (A0 rfl) (A8 (A0 rfl) C7)))) ?_
   refine A1 rfl (J3 rfl (A0 rfl)) ?_
   refine A4 ?_
   refine C0 (A0 rfl) ?_ ?_
   ·intro h59
    have hfin : areHeld s = false := by (unfold areHeld; rw [T8 hlt (by rw [n9 hx hy, hinv.2, drop_some hx2, List.all_cons, show apart k h.Reads h.Writes = false by simpa using h59]; simp)]; rfl)
    refine A3 (A2 ?_)
    refine A1 rfl (A9 rfl E3) ?_
    refine A4 ?_
    refine B8 ?_
    exact E4 rfl (B7 rfl (by first | exact congrArg AV.bool hfin.symm | exact congrArg AV.bool (by unfold areHeld; rw [hall, Bool.true_and, List.nil_append, A6]; congr 1; rw [decide_eq_decide]; omega)))
   intro h59
   refine C1 (A2 ?_)
   refine A1 rfl (F1 rfl (A0 rfl) B4 (by first | omega | (simp only [D4, B0, szR] at *; omega))) ?_
   refine A5 rfl ?_
   refine A4 ?_
   refine I0 q (q + 1) ?_ ?_ (S3 1 ⟨rfl, rfl, rfl, rfl, rfl, rfl, rfl, rfl, rfl, rfl, rfl, rfl, rfl, rfl, rfl, rfl, rfl, rfl, rfl, rfl, rfl, rfl, rfl, rfl, trivial⟩)
   ·exact ⟨by omega, by rw [hinv.2, drop_some hx2, List.all_cons, show apart k h.Reads h.Writes = true by simpa using h59]; rfl⟩
   omega
  intro h50
  have k50 := of_decide_eq_false h50; try simp only [A6] at k50
  have hge2 : (s.Held.take i).length ≤ q := by (simp only [F4, A6, Int.toNat_natCast] at k50 ⊢; omega)
  have hap : ((s.Held.take i).all fun g => apart g h.Reads h.Writes) = true := by (rw [hinv.2, List.drop_eq_nil_of_le hge2]; rfl)
  refine F5 ?_
  refine A3 (A2 ?_)
  refine A1 rfl (B2 4 rfl D8 rfl I7 (A0 rfl) rfl) ?_
  refine A1 rfl (B1 0 rfl (A0 rfl) rfl J7 rfl) ?_
  refine A1 rfl (E9 rfl E7 (A0 rfl)) ?_
  refine A1 rfl (C2 rfl B4) ?_
  refine A4 (C4 ?_)
  refine H2 [(1, _), (3, _), (4, _), (10, _), (11, _), (12, _), (13, _), (14, _), (15, _), (16, _), (17, _), (18, _), (19, _), (20, _), (21, _), (27, _), (28, _), (43, _), (44, _), (45, _), (46, _), (47, _), (48, _), (49, _), (50, _), (61, _), (62, _), (63, _)] _ (fun (r : Nat) => r ≤ h.Writes.length ∧ (h.Writes.all fun w => decide (lastTime s.Cells w.Key < h.Time)) = ((h.Writes.drop r).all fun w => decide (lastTime s.Cells w.Key < h.Time))) (fun (r : Nat) => []) (fun (r : Nat) => [(64, AV.int r)]) (fun (r : Nat) => h.Writes.length - r) (0) ?_ (H1 ⟨rfl, rfl, rfl, rfl, rfl, rfl, rfl, rfl, rfl, rfl, rfl, rfl, rfl, rfl, rfl, rfl, rfl, rfl, rfl, rfl, rfl, rfl, rfl, rfl, rfl, rfl, rfl, rfl, rfl, trivial⟩) ?_
  ·exact ⟨Nat.zero_le _, rfl⟩
  intro r hinv
  refine A3 (A2 ?_)
  refine A1 rfl (G0 rfl (A0 rfl) (A0 rfl)) ?_
  refine A4 (A3 ?_)
  refine C0 (A0 rfl) ?_ ?_
  ·intro h65
   have k65 := of_decide_eq_true h65; try simp only [A6] at k65
   have hlt3 : r < h.Writes.length := by omega
   obtain ⟨w, hw⟩ := get_some hlt3
   refine C1 (A3 (C4 (A3 (A2 ?_))))
   refine A1 rfl (I9 rfl E7 G1 (A0 rfl) (A0 rfl) hw (by first | omega | (simp only [D4, B0, szR] at *; omega))) ?_
   refine A1 rfl (H8 rfl (A0 rfl) P1 G1) ?_
   refine I1 rfl rfl rfl rfl Tryz.zeroValue101 rfl ?_
   intro b8
   refine H9 0 rfl rfl rfl (A0 rfl) (A0 rfl) (J4 _) rfl G1 rfl ?_
   refine A4 (A3 ?_)
   refine H7 (by kernel_rfl) (by kernel_rfl) rfl ?_
   refine B5 rfl rfl (B2 1 rfl E2 rfl K5 (A0 rfl) rfl) ?_
   refine B5 rfl rfl (B1 2 rfl (A0 rfl) rfl N1 rfl) ?_
   refine B5 rfl rfl (B2 0 rfl G2 rfl C6 (A0 rfl) rfl) ?_
   refine B5 rfl rfl (B1 0 rfl (A0 rfl) rfl E5 rfl) ?_
   refine B5 rfl rfl (E1 rfl Tryz.call127 rfl (AF5 _ _ (by first | assumption | exact U1 (by rw [U0]; assumption)) (by first | assumption | omega)) (A8 (A0 rfl) (A8 (A0 rfl) C7))) ?_
   refine B5 rfl rfl (B2 1 rfl D8 rfl B9 (A0 rfl) rfl) ?_
   refine B5 rfl rfl (B1 1 rfl (A0 rfl) rfl D2 rfl) ?_
   refine B5 rfl rfl (X1 rfl (A0 rfl) (A0 rfl)) ?_
   refine O5 ?_
   refine C0 (A0 rfl) ?_ ?_
   ·intro h75
    have k75 := of_decide_eq_true h75; try simp only [A6] at k75
    have hfin : areHeld s = false := by (unfold areHeld; rw [T8 hlt (by rw [n9 hx hy, hinv.2, drop_some hw, List.all_cons, decide_eq_false (show ¬ lastTime s.Cells w.Key < h.Time by omega)]; simp)]; rfl)
    refine A3 (A2 ?_)
    refine A1 rfl (A9 rfl E3) ?_
    refine A4 ?_
    refine B8 ?_
    exact E4 rfl (B7 rfl (by first | exact congrArg AV.bool hfin.symm | exact congrArg AV.bool (by unfold areHeld; rw [hall, Bool.true_and, List.nil_append, A6]; congr 1; rw [decide_eq_decide]; omega)))
   intro h75
   have k75 := of_decide_eq_false h75; try simp only [A6] at k75
   refine C1 (A2 ?_)
   refine A1 rfl (F1 rfl (A0 rfl) B4 (by first | omega | (simp only [D4, B0, szR] at *; omega))) ?_
   refine A5 rfl ?_
   refine A4 ?_
   refine I0 r (r + 1) ?_ ?_ (S3 1 ⟨rfl, rfl, rfl, rfl, rfl, rfl, rfl, rfl, rfl, rfl, rfl, rfl, rfl, rfl, rfl, rfl, rfl, rfl, rfl, rfl, rfl, rfl, rfl, rfl, rfl, rfl, rfl, rfl, rfl, trivial⟩)
   ·exact ⟨by omega, by rw [hinv.2, drop_some hw, List.all_cons, decide_eq_true (show lastTime s.Cells w.Key < h.Time by omega)]; rfl⟩
   omega
  intro h65
  have k65 := of_decide_eq_false h65; try simp only [A6] at k65
  have hge3 : h.Writes.length ≤ r := by omega
  have hlw : (h.Writes.all fun w => decide (lastTime s.Cells w.Key < h.Time)) = true := by (rw [hinv.2, List.drop_eq_nil_of_le hge3]; rfl)
  refine F5 ?_
  refine A2 ?_
  refine A1 rfl (F1 rfl (A0 rfl) B4 (by first | omega | (simp only [D4, B0, szR] at *; omega))) ?_
  refine A5 rfl ?_
  refine A4 ?_
  refine I0 i (i + 1) ?_ ?_ (S3 1 ⟨rfl, rfl, rfl, rfl, trivial⟩)
  ·exact ⟨by omega, fun j hj => if hji : j < i then hinv0.2 j hji else (by have e : j = i := (by omega); subst e; rw [n9 hx hy, h43, hap, hlw]; rfl)⟩
  omega
 intro h13
 have k13 := of_decide_eq_false h13; try simp only [A6] at k13
 have hge : s.Held.length ≤ i := by omega
 have hall : allB s.Held.length (heldAt s) = true := a7.2 fun j hj => hinv.2 j (by omega)
 refine F5 ?_
 refine A3 (A2 ?_)
 refine A1 rfl (B2 2 rfl E2 rfl M1 (A0 rfl) rfl) ?_
 refine A1 rfl (B1 0 rfl (A0 rfl) rfl Q1 rfl) ?_
 refine A1 rfl (E9 rfl F6 (A0 rfl)) ?_
 refine A1 rfl (R7 rfl (A0 rfl) B4) ?_
 refine A5 rfl ?_
 refine D1 rfl (fun hc => K8 0 rfl (A0 rfl) rfl O0 L3 rfl) ?_
 refine D1 rfl (fun hc => E1 rfl Tryz.call179 rfl (Aj8 s [] hs (by (have h9 := AR3 (Aj9 hall); have h8 := of_decide_eq_true hc; simp only [A6] at h8; simp only [X3]; omega))) (A8 (A7 rfl hc) (A8 c3 C7))) ?_
 refine A1 rfl (H5 rfl (A0 rfl) (F3 rfl)) ?_
 refine B3 rfl ?_
 refine A4 ?_
 refine B8 ?_
 exact E4 rfl (B7 rfl (by first | exact congrArg AV.bool hfin.symm | exact congrArg AV.bool (by unfold areHeld; rw [hall, Bool.true_and, List.nil_append, A6]; congr 1; rw [decide_eq_decide]; omega)))
theorem AL3 (s : TState) (hs : s.size ≤ 1048576) : FSpec Tryz.prog 80 [AV.agg s.cs] (AV.bool (goodState s)) := by
 obtain ⟨hs1, hs2, hs3, hs4, hs5⟩ := Z4 hs
 refine D3 Tryz.func80 rfl Tryz.ntmps80 rfl ?_
 refine A3 (A2 ?_)
 refine I8 rfl rfl rfl rfl (A0 rfl) ?_
 intro b1
 refine A1 rfl (A9 rfl E3) ?_
 refine A4 (A3 (A3 (A2 ?_)))
 refine A1 rfl (B2 0 rfl E2 rfl B9 (A0 rfl) rfl) ?_
 refine A1 rfl (B1 0 rfl (A0 rfl) rfl D2 rfl) ?_
 refine A1 rfl (E1 rfl Tryz.call124 rfl (Ab7 _) (A8 (A0 rfl) C7)) ?_
 refine A1 rfl (J3 rfl (A0 rfl)) ?_
 refine A5 rfl ?_
 refine H3 rfl (fun hc => B2 1 rfl E2 rfl K5 (A0 rfl) rfl) ?_
 refine H3 rfl (fun hc => B1 0 rfl (A7 rfl hc) rfl N1 rfl) ?_
 refine H3 rfl (fun hc => E1 rfl Tryz.call125 rfl (Ac0 _ (by first | assumption | omega)) (A8 (A7 rfl hc) C7)) ?_
 refine H3 rfl (fun hc => J3 rfl (A7 rfl hc)) ?_
 refine A1 rfl (O1 rfl (A0 rfl) (F3 rfl)) ?_
 refine A5 rfl ?_
 refine H3 rfl (fun hc => K8 0 rfl (A0 rfl) rfl O0 L3 rfl) ?_
 refine H3 rfl (fun hc => E1 rfl Tryz.call126 rfl (AT6 s (U1 (by have h9 := hc; simp at h9; rw [U0]; exact h9.2)) (by have h9 := hc; simp at h9; have h8 := (Q0 (by rw [U0]; exact h9.2)).1; omega) hs) (A8 (A7 rfl hc) C7)) ?_
 refine H3 rfl (fun hc => J3 rfl (A7 rfl hc)) ?_
 refine A1 rfl (O1 rfl (A0 rfl) (F3 rfl)) ?_
 refine A5 rfl ?_
 refine H3 rfl (fun hc => B2 3 rfl E2 rfl P7 (A0 rfl) rfl) ?_
 refine H3 rfl (fun hc => B1 0 rfl (A7 rfl hc) rfl T9 rfl) ?_
 refine H3 rfl (fun hc => E9 rfl J0 (A7 rfl hc)) ?_
 refine H3 rfl (fun hc => R4 rfl (A7 rfl hc) B4) ?_
 refine A1 rfl (O1 rfl (A0 rfl) (F3 rfl)) ?_
 refine A4 ?_
 refine C0 (A0 rfl) ?_ ?_
 ·intro h29
  have hfin : goodState s = false := by (unfold goodState; simp only [Bool.or_eq_true, Bool.not_eq_true', decide_eq_true_eq, A6] at h29; rcases h29 with ((h | h) | h) | h; (rw [h]; rfl); (rw [U0, h]; simp); (rw [h]; simp); (rw [decide_eq_false (show ¬ s.Told.length ≤ 60 by omega)]; simp))
  refine A3 (A2 ?_)
  refine A1 rfl (A9 rfl E3) ?_
  refine A4 ?_
  refine B8 ?_
  exact E4 rfl (B7 rfl (by exact congrArg AV.bool hfin.symm))
 intro h29
 simp only [Bool.or_eq_false_iff, Bool.not_eq_false', decide_eq_false_iff_not, A6] at h29
 obtain ⟨⟨⟨q1, q2⟩, q3⟩, q4⟩ := h29
 have hco := U1 (by rw [U0]; exact q2)
 have hgs : goodState s = ((s.Cells.all fun c => decide (lastTime s.Cells c.Key ≤ s.Floor)) && allB s.Told.length (toldAt s)) := by (unfold goodState; rw [q1, U0, q2, q3, decide_eq_true (show s.Told.length ≤ 60 by omega)]; simp)
 refine C1 (A3 (A3 (A2 ?_)))
 refine A1 rfl (B2 1 rfl E2 rfl K5 (A0 rfl) rfl) ?_
 refine A1 rfl (B1 0 rfl (A0 rfl) rfl N1 rfl) ?_
 refine A1 rfl (E9 rfl F0 (A0 rfl)) ?_
 refine A1 rfl (C2 rfl B4) ?_
 refine A4 (C4 ?_)
 refine H2 [(1, _), (31, _), (32, _)] _ (fun (i : Nat) => i ≤ s.Cells.length ∧ (s.Cells.all fun c => decide (lastTime s.Cells c.Key ≤ s.Floor)) = ((s.Cells.drop i).all fun c => decide (lastTime s.Cells c.Key ≤ s.Floor))) (fun (i : Nat) => []) (fun (i : Nat) => [(33, AV.int i)]) (fun (i : Nat) => s.Cells.length - i) (0) ?_ (H1 ⟨rfl, rfl, rfl, rfl, trivial⟩) ?_
 ·exact ⟨Nat.zero_le _, rfl⟩
 intro i hinv
 refine A3 (A2 ?_)
 refine A1 rfl (G0 rfl (A0 rfl) (A0 rfl)) ?_
 refine A4 (A3 ?_)
 refine C0 (A0 rfl) ?_ ?_
 ·intro h34
  have k34 := of_decide_eq_true h34; try simp only [A6] at k34
  have hlt : i < s.Cells.length := by omega
  obtain ⟨c, hx⟩ := get_some hlt
  refine C1 (A3 (C4 (A3 (A2 ?_))))
  refine A1 rfl (I9 rfl F0 E8 (A0 rfl) (A0 rfl) hx (by first | omega | (simp only [D4, B0, szR] at *; omega))) ?_
  refine A1 rfl (H8 rfl (A0 rfl) L9 E8) ?_
  refine I1 rfl rfl rfl rfl Tryz.zeroValue125 rfl ?_
  intro b4
  refine H9 0 rfl rfl rfl (A0 rfl) (A0 rfl) (J4 _) rfl E8 rfl ?_
  refine A4 (A3 ?_)
  refine H7 (by kernel_rfl) (by kernel_rfl) rfl ?_
  refine B5 rfl rfl (B2 1 rfl E2 rfl K5 (A0 rfl) rfl) ?_
  refine B5 rfl rfl (B1 1 rfl (A0 rfl) rfl N1 rfl) ?_
  refine B5 rfl rfl (B2 0 rfl F2 rfl C6 (A0 rfl) rfl) ?_
  refine B5 rfl rfl (B1 0 rfl (A0 rfl) rfl E5 rfl) ?_
  refine B5 rfl rfl (E1 rfl Tryz.call127 rfl (AF5 _ _ (by first | assumption | exact U1 (by rw [U0]; assumption)) (by first | assumption | omega)) (A8 (A0 rfl) (A8 (A0 rfl) C7))) ?_
  refine B5 rfl rfl (B2 0 rfl E2 rfl B9 (A0 rfl) rfl) ?_
  refine B5 rfl rfl (B1 1 rfl (A0 rfl) rfl D2 rfl) ?_
  refine B5 rfl rfl (R4 rfl (A0 rfl) (A0 rfl)) ?_
  refine O5 ?_
  refine C0 (A0 rfl) ?_ ?_
  ·intro h44
   have k44 := of_decide_eq_true h44; try simp only [A6] at k44
   have hfin : goodState s = false := by (rw [hgs, hinv.2, drop_some hx, List.all_cons, decide_eq_false (show ¬ lastTime s.Cells c.Key ≤ s.Floor by omega)]; rfl)
   refine A3 (A2 ?_)
   refine A1 rfl (A9 rfl E3) ?_
   refine A4 ?_
   refine B8 ?_
   exact E4 rfl (B7 rfl (by exact congrArg AV.bool hfin.symm))
  intro h44
  have k44 := of_decide_eq_false h44; try simp only [A6] at k44
  refine C1 (A2 ?_)
  refine A1 rfl (F1 rfl (A0 rfl) B4 (by first | omega | (simp only [D4, B0, szR] at *; omega))) ?_
  refine A5 rfl ?_
  refine A4 ?_
  refine I0 i (i + 1) ?_ ?_ (S3 1 ⟨rfl, rfl, rfl, rfl, trivial⟩)
  ·exact ⟨by omega, by rw [hinv.2, drop_some hx, List.all_cons, decide_eq_true (show lastTime s.Cells c.Key ≤ s.Floor by omega)]; rfl⟩
  omega
 intro h34
 have k34 := of_decide_eq_false h34; try simp only [A6] at k34
 have hge : s.Cells.length ≤ i := by omega
 have hgs2 : goodState s = allB s.Told.length (toldAt s) := by (rw [hgs, hinv.2, List.drop_eq_nil_of_le hge]; rfl)
 refine F5 ?_
 refine A3 (A3 (A2 ?_))
 refine A1 rfl (B2 3 rfl E2 rfl P7 (A0 rfl) rfl) ?_
 refine A1 rfl (B1 0 rfl (A0 rfl) rfl T9 rfl) ?_
 refine A1 rfl (E9 rfl J0 (A0 rfl)) ?_
 refine A1 rfl (C2 rfl B4) ?_
 refine A4 (C4 ?_)
 refine H2 [(1, _), (47, _), (48, _)] _ (fun (q : Nat) => q ≤ s.Told.length ∧ ∀ j, j < q → toldAt s j = true) (fun (q : Nat) => []) (fun (q : Nat) => [(49, AV.int q)]) (fun (q : Nat) => s.Told.length - q) (0) ?_ (H1 ⟨rfl, rfl, rfl, rfl, trivial⟩) ?_
 ·exact ⟨Nat.zero_le _, fun j hj => by omega⟩
 intro q hinv
 refine A3 (A2 ?_)
 refine A1 rfl (G0 rfl (A0 rfl) (A0 rfl)) ?_
 refine A4 (A3 ?_)
 refine C0 (A0 rfl) ?_ ?_
 ·intro h50
  have k50 := of_decide_eq_true h50; try simp only [A6] at k50
  have hlt : q < s.Told.length := by omega
  obtain ⟨t, hx⟩ := get_some hlt
  obtain ⟨y, hy⟩ := get_some (show q - 1 < s.Told.length by omega)
  refine C1 (A3 (C4 (A3 (A2 ?_))))
  refine A5 rfl ?_
  refine A1 rfl (I9 rfl J0 K3 (A0 rfl) (A0 rfl) hx (by first | omega | (simp only [D4, B0, szR] at *; omega))) ?_
  refine A1 rfl (H8 rfl (A0 rfl) X6 K3) ?_
  refine I1 rfl rfl rfl rfl Tryz.zeroValue144 rfl ?_
  intro b6
  refine B3 rfl ?_
  refine H9 0 rfl rfl rfl (A0 rfl) (A0 rfl) (J4 _) rfl K3 rfl ?_
  refine A4 (A3 (A3 ?_))
  refine H7 (by kernel_rfl) (by kernel_rfl) rfl ?_
  refine B5 rfl rfl (B2 0 rfl G8 rfl B9 (A0 rfl) rfl) ?_
  refine B5 rfl rfl (B1 0 rfl (A0 rfl) rfl D2 rfl) ?_
  refine B5 rfl rfl (E1 rfl Tryz.call39 rfl (R9 _ _ _) (A8 (A0 rfl) (A8 B4 (A8 B4 C7)))) ?_
  refine B5 rfl rfl (J3 rfl (A0 rfl)) ?_
  refine B5 rfl rfl (C2 rfl (A0 rfl)) ?_
  refine D9 rfl (G6 rfl rfl rfl) (fun hc => C2 rfl (A0 rfl)) ?_
  refine D9 rfl (G6 rfl rfl rfl) (fun hc => R4 rfl (A7 rfl hc) B4) ?_
  refine D9 rfl (G6 rfl rfl rfl) (fun hc => C2 rfl (A7 rfl hc)) ?_
  refine D9 rfl (D7 rfl rfl rfl) (fun hc => B2 3 rfl E2 rfl P7 (A0 rfl) rfl) ?_
  refine D9 rfl (D7 rfl rfl rfl) (fun hc => B1 1 rfl (A7 rfl hc) rfl T9 rfl) ?_
  refine D9 rfl (D7 rfl rfl rfl) (fun hc => C2 rfl (A0 rfl)) ?_
  refine D9 rfl (D7 rfl rfl rfl) (fun hc => P4 rfl (A7 rfl hc) B4 (by first | omega | ((try simp only [D4, B0, szR] at *); omega) | (have hc2 := hc; simp only [O6, beq_iff_eq, bne_iff_ne, A6, F4] at hc2; omega))) ?_
  refine D9 rfl (D7 rfl rfl rfl) (fun hc => I9 rfl J0 K3 (A7 rfl hc) (A7 rfl hc) hy (by first | omega | ((try simp only [D4, B0, szR] at *); omega) | (have hc2 := hc; simp only [O6, beq_iff_eq, bne_iff_ne, A6, F4] at hc2; omega))) ?_
  refine D9 rfl (D7 rfl rfl rfl) (fun hc => Q2 rfl G8 rfl B9 (A7 rfl hc) rfl) ?_
  refine D9 rfl (D7 rfl rfl rfl) (fun hc => J5 rfl (A7 rfl hc) D2 rfl) ?_
  refine D9 rfl (D7 rfl rfl rfl) (fun hc => B2 0 rfl G8 rfl B9 (A0 rfl) rfl) ?_
  refine D9 rfl (D7 rfl rfl rfl) (fun hc => B1 0 rfl (A7 rfl hc) rfl D2 rfl) ?_
  refine D9 rfl (D7 rfl rfl rfl) (fun hc => X1 rfl (A7 rfl hc) (A7 rfl hc)) ?_
  refine D9 rfl (G6 rfl rfl rfl) (fun hc => H5 rfl (A7 rfl hc) (N2 rfl hc)) ?_
  refine B5 rfl rfl (O1 rfl (A0 rfl) (F3 rfl)) ?_
  refine B5 rfl rfl (C2 rfl (A0 rfl)) ?_
  refine D9 rfl (G6 rfl rfl rfl) (fun hc => B2 1 rfl G8 rfl F8 (A0 rfl) rfl) ?_
  refine D9 rfl (G6 rfl rfl rfl) (fun hc => B1 0 rfl (A7 rfl hc) rfl I5 rfl) ?_
  refine D9 rfl (G6 rfl rfl rfl) (fun hc => C2 rfl (A7 rfl hc)) ?_
  refine D9 rfl (D7 rfl rfl rfl) (fun hc => B2 2 rfl G8 rfl B9 (A0 rfl) rfl) ?_
  refine D9 rfl (D7 rfl rfl rfl) (fun hc => B1 0 rfl (A7 rfl hc) rfl D2 rfl) ?_
  refine D9 rfl (D7 rfl rfl rfl) (fun hc => B2 0 rfl E2 rfl B9 (A0 rfl) rfl) ?_
  refine D9 rfl (D7 rfl rfl rfl) (fun hc => B1 1 rfl (A7 rfl hc) rfl D2 rfl) ?_
  refine D9 rfl (D7 rfl rfl rfl) (fun hc => E1 rfl Tryz.call39 rfl (R9 _ _ _) (A8 (A7 rfl hc) (A8 B4 (A8 (A7 rfl hc) C7)))) ?_
  refine D9 rfl (D7 rfl rfl rfl) (fun hc => J3 rfl (A7 rfl hc)) ?_
  refine D9 rfl (G6 rfl rfl rfl) (fun hc => H5 rfl (A7 rfl hc) (N2 rfl hc)) ?_
  refine B5 rfl rfl (O1 rfl (A0 rfl) (F3 rfl)) ?_
  refine B5 rfl rfl (C2 rfl (A0 rfl)) ?_
  refine D9 rfl (G6 rfl rfl rfl) (fun hc => B2 1 rfl G8 rfl F8 (A0 rfl) rfl) ?_
  refine D9 rfl (G6 rfl rfl rfl) (fun hc => B1 0 rfl (A7 rfl hc) rfl I5 rfl) ?_
  refine D9 rfl (G6 rfl rfl rfl) (fun hc => J3 rfl (A7 rfl hc)) ?_
  refine D9 rfl (G6 rfl rfl rfl) (fun hc => C2 rfl (A7 rfl hc)) ?_
  refine D9 rfl (D7 rfl rfl rfl) (fun hc => B2 2 rfl G8 rfl B9 (A0 rfl) rfl) ?_
  refine D9 rfl (D7 rfl rfl rfl) (fun hc => B1 0 rfl (A7 rfl hc) rfl D2 rfl) ?_
  refine D9 rfl (D7 rfl rfl rfl) (fun hc => R6 rfl (A7 rfl hc) B4) ?_
  refine D9 rfl (G6 rfl rfl rfl) (fun hc => H5 rfl (A7 rfl hc) (N2 rfl hc)) ?_
  refine B5 rfl rfl (O1 rfl (A0 rfl) (F3 rfl)) ?_
  refine O5 ?_
  refine C0 (A0 rfl) ?_ ?_
  ·intro h95
   have hfin : goodState s = false := by (rw [hgs2]; exact T8 hlt (by rw [y9 hx hy, h95]; rfl))
   refine A3 (A2 ?_)
   refine A1 rfl (A9 rfl E3) ?_
   refine A4 ?_
   refine B8 ?_
   exact E4 rfl (B7 rfl (by exact congrArg AV.bool hfin.symm))
  intro h95
  refine C1 (A3 (A2 ?_))
  refine A1 rfl (K8 1 rfl (A0 rfl) rfl O0 L3 rfl) ?_
  refine A1 rfl (B2 0 rfl G8 rfl B9 (A0 rfl) rfl) ?_
  refine A1 rfl (B1 0 rfl (A0 rfl) rfl D2 rfl) ?_
  refine A1 rfl (E1 rfl Tryz.call128 rfl (AZ5 _ _ (by first | assumption | omega)) (A8 (A0 rfl) (A8 (A0 rfl) C7))) ?_
  refine A5 rfl ?_
  refine A1 rfl (M2 rfl (A0 rfl) rfl) ?_
  refine A1 rfl (M2 rfl (A0 rfl) rfl) ?_
  refine I1 rfl rfl rfl rfl Tryz.zeroValue141 rfl ?_
  intro b7
  refine H9 0 rfl rfl rfl (A0 rfl) (A0 rfl) (J4 _) rfl E6 rfl ?_
  refine B3 rfl ?_
  refine A4 (A3 (A2 ?_))
  refine A5 rfl ?_
  refine A4 ?_
  refine C0 (A0 rfl) ?_ ?_
  ·intro h103
   have hfin : goodState s = false := by (rw [hgs2]; exact T8 hlt (by rw [y9 hx hy, ← AR2, h103]; simp))
   refine A3 (A2 ?_)
   refine A1 rfl (A9 rfl E3) ?_
   refine A4 ?_
   refine B8 ?_
   exact E4 rfl (B7 rfl (by exact congrArg AV.bool hfin.symm))
  intro h103
  refine C1 (A2 ?_)
  refine A1 rfl (F1 rfl (A0 rfl) B4 (by first | omega | (simp only [D4, B0, szR] at *; omega))) ?_
  refine A5 rfl ?_
  refine A4 ?_
  refine I0 q (q + 1) ?_ ?_ (S3 2 ⟨rfl, rfl, rfl, rfl, trivial⟩)
  ·exact ⟨by omega, fun j hj => if hji : j < q then hinv.2 j hji else (by have e : j = q := (by omega); subst e; rw [y9 hx hy, h95, ← AR2, h103]; rfl)⟩
  omega
 intro h50
 have k50 := of_decide_eq_false h50; try simp only [A6] at k50
 have hge : s.Told.length ≤ q := by omega
 have hfin : goodState s = true := by (rw [hgs2]; exact a7.2 fun j hj => hinv.2 j (by omega))
 refine F5 ?_
 refine A3 (A2 ?_)
 refine A1 rfl (A9 rfl E3) ?_
 refine A4 ?_
 refine B8 ?_
 exact E4 rfl (B7 rfl (by exact congrArg AV.bool hfin.symm))
end Go.Proofs.YtkegepoihkhihaaGreat

namespace Go.Proofs.YtkegepoihkhihaaGreat
open Go Go.AV Go.M
attribute [local irreducible] OpW OpA OpS AWP FSpec ESpec GSpec OpE RetOk RetOkG RvDen Le Ev GuardIs SrcIs
end Go.Proofs.YtkegepoihkhihaaGreat

namespace Go.Proofs.YtkegepoihkhihaaGreat
open Go Go.AV Go.M
attribute [local irreducible] OpW OpA OpS AWP FSpec ESpec GSpec OpE RetOk RetOkG RvDen Le Ev GuardIs
end Go.Proofs.YtkegepoihkhihaaGreat

namespace Go.Proofs.YtkegepoihkhihaaGreat
open Go Go.AV Go.M
attribute [local irreducible] OpW OpA OpS AWP FSpec ESpec GSpec OpE RetOk RetOkG RvDen Le Ev GuardIs SrcIs
end Go.Proofs.YtkegepoihkhihaaGreat

set_option maxHeartbeats 2000000
namespace Go.M
open Go.AV
structure SO (s : TState) : Prop where
  floor : 0 ≤ s.Floor
  cells : CellsOk s.Cells
  hsort : s.Held.Pairwise fun a b => a.Txn < b.Txn
  tsort : s.Told.Pairwise fun a b => a.Txn < b.Txn
  times : ∀ h ∈ s.Held, 1 ≤ h.Time
end Go.M
namespace Go.Proofs.YtkegepoihkhihaaGreat
open Go Go.AV Go.M
attribute [local irreducible] OpW OpA OpS AWP FSpec ESpec GSpec OpE RetOk RetOkG RvDen Le Ev GuardIs SrcIs Int.tmod Int.tdiv IntKind.wrap
end Go.Proofs.YtkegepoihkhihaaGreat

set_option maxHeartbeats 1000000
namespace Go.M
open Go.AV
end Go.M
namespace Go.Proofs.YtkegepoihkhihaaGreat
open Go Go.AV Go.M
attribute [local irreducible] OpW OpA OpS AWP FSpec ESpec GSpec OpE RetOk RetOkG RvDen Le Ev GuardIs SrcIs Int.tmod Int.tdiv IntKind.wrap
theorem AI1 (s : TState) (hs : s.size ≤ 1048576) : FSpec Tryz.prog 45 [AV.agg s.cs] (AV.bool (goodState s)) := by
 refine D3 Tryz.func45 rfl Tryz.ntmps45 rfl ?_
 refine A3 (A2 ?_)
 refine I8 rfl rfl rfl rfl (A0 rfl) ?_
 intro b1
 refine A1 rfl (A9 rfl E3) ?_
 refine A4 (A3 (A2 ?_))
 refine A1 rfl (K8 0 rfl (A0 rfl) rfl O0 L3 rfl) ?_
 refine A1 rfl (E1 rfl Tryz.call80 rfl (AL3 _ (by first | assumption | omega)) (A8 (A0 rfl) C7)) ?_
 refine B3 rfl ?_
 refine A4 ?_
 refine B8 ?_
 exact E4 rfl (B7 rfl (by first | rfl | (refine congrArg AV.bool ?_; simp_all; done)))
end Go.Proofs.YtkegepoihkhihaaGreat

namespace Go.M
open Go.AV
def inTime (a u : Int) (v : TVer) : Bool := decide (a < v.Time) && decide (v.Time ≤ u)
def itemOf (g : Int) (k : Str) (v : TVer) : TFeedItem := ⟨v.Time, g, k, v.Val, v.Gone⟩
def cellItems (g a u : Int) (c : TCell) : List TFeedItem := (c.Vers.filter (inTime a u)).map (itemOf g c.Key)
def rawItems (l : List TCell) (g a u : Int) : List TFeedItem := (l.map (cellItems g a u)).flatten
def Cmb (x y : TFeedItem) : Prop := l23Ahead x y = true ∨ l23Ahead y x = true
def Dist (l : List TFeedItem) : Prop := l.Pairwise Cmb
theorem Cmb.symm {x y : TFeedItem} (h : Cmb x y) : Cmb y x := Or.symm h
theorem cmb_ne {x y : TFeedItem} (h : Cmb x y) : x ≠ y := fun e => by
  subst e
  rcases h with h | h <;> (rw [m7] at h; cases h)
theorem cmb_of {x y : TFeedItem} (h : ¬ sameKey x y) : Cmb x y := by
  rcases AQ0 x y with k | k | k
  · exact .inl k
  · exact (h k).elim
  · exact .inr k
theorem AL4 {l : List TFeedItem} (h : Dist l) : l.Nodup := h.imp fun {a b} hab => cmb_ne hab
theorem srt_dist {l : List TFeedItem} (h : Srt l) : Dist l := h.imp fun {a b} hab => .inl hab
def insAll (o : List TFeedItem) (l : List TFeedItem) : List TFeedItem := l.foldl (fun o x => (putR o x).1) o
def feedIn (l : List TCell) (g a u : Int) : List TFeedItem := insAll [] (rawItems l g a u)
theorem d9 {g a u : Int} {c : TCell} {x : TFeedItem} : x ∈ cellItems g a u c ↔ ∃ v ∈ c.Vers, (a < v.Time ∧ v.Time ≤ u) ∧ x = itemOf g c.Key v := by
  unfold cellItems inTime
  simp only [List.mem_map, List.mem_filter, Bool.and_eq_true, decide_eq_true_eq]
  constructor
  · rintro ⟨v, ⟨h1, h2⟩, rfl⟩; exact ⟨v, h1, h2, rfl⟩
  · rintro ⟨v, h1, h2, rfl⟩; exact ⟨v, ⟨h1, h2⟩, rfl⟩
theorem AZ6 {l : List TCell} {g a u : Int} {x : TFeedItem} : x ∈ rawItems l g a u ↔ ∃ c ∈ l, ∃ v ∈ c.Vers, (a < v.Time ∧ v.Time ≤ u) ∧ x = itemOf g c.Key v := by
  unfold rawItems
  simp only [List.mem_flatten, List.mem_map]
  constructor
  · rintro ⟨_, ⟨c, hc, rfl⟩, hx⟩; exact ⟨c, hc, d9.1 hx⟩
  · rintro ⟨c, hc, hx⟩; exact ⟨_, ⟨c, hc, rfl⟩, d9.2 hx⟩
theorem AI2 {l : List TCell} (ha : adj cLess l = true) (hv : ∀ c ∈ l, adj verLess c.Vers = true) (g a u : Int) : Dist (rawItems l g a u) := by
  unfold Dist rawItems
  rw [List.pairwise_flatten, List.pairwise_map]
  refine ⟨fun m hm => ?_, ((s3 d8).1 ha).imp fun {c d} hcd x hx y hy => ?_⟩
  · obtain ⟨c, hc, rfl⟩ := List.mem_map.1 hm
    unfold cellItems
    rw [List.pairwise_map]
    refine (List.Pairwise.sublist List.filter_sublist ((s3 AS2).1 (hv c hc))).imp fun {v w} hvw => cmb_of fun hs => ?_
    have := hs.1
    unfold verLess at hvw
    have := of_decide_eq_true hvw
    unfold itemOf at hs
    have := hs.1
    dsimp only at this
    omega
  · obtain ⟨v, _, _, rfl⟩ := d9.1 hx
    obtain ⟨w, _, _, rfl⟩ := d9.1 hy
    refine cmb_of fun hs => ?_
    have h2 : c.Key = d.Key := hs.2.2
    unfold cLess at hcd
    rw [h2, K9] at hcd; cases hcd
theorem AR4 : ∀ {l o : List TFeedItem}, Srt o → (∀ x ∈ l, ∀ y ∈ o, Cmb x y) → Dist l → Srt (insAll o l) ∧ ∀ z, z ∈ insAll o l ↔ z ∈ o ∨ z ∈ l
  | [], o, h, _, _ => ⟨h, fun z => by unfold insAll; simp⟩
  | x :: l, o, h, hc, hd => by
    obtain ⟨d1, d2⟩ := List.pairwise_cons.1 hd
    have hp : (putR o x).2 = true := by
      cases e : (putR o x).2 with
      | true => rfl
      | false =>
        obtain ⟨y, hy, _, h3, h4⟩ := Ag1 e
        rcases hc x List.mem_cons_self y hy with k | k
        · rw [h4] at k; cases k
        · rw [h3] at k; cases k
    obtain ⟨p1, p2⟩ := Ag0 h hp
    obtain ⟨i1, i2⟩ := AR4 (l := l) (o := (putR o x).1) p1 (fun z hz y hy => by
      rcases (p2 y).1 hy with hy | rfl
      · exact hc z (List.mem_cons_of_mem _ hz) y hy
      · exact (d1 z hz).symm) d2
    refine ⟨i1, fun z => ?_⟩
    show z ∈ insAll (putR o x).1 l ↔ _
    rw [i2, p2, List.mem_cons, or_assoc]
theorem n1 {l : List TCell} (ha : adj cLess l = true) (hv : ∀ c ∈ l, adj verLess c.Vers = true) (g a u : Int) : Srt (feedIn l g a u) ∧ ∀ z, z ∈ feedIn l g a u ↔ z ∈ rawItems l g a u := by
  obtain ⟨h1, h2⟩ := AR4 (l := rawItems l g a u) (o := []) List.Pairwise.nil (fun _ _ y hy => by cases hy) (AI2 ha hv g a u)
  exact ⟨h1, fun z => by unfold feedIn; rw [h2]; simp⟩
theorem Ao8 {a b : List TFeedItem} (ha : a.Nodup) (hb : b.Nodup) (h : ∀ z, z ∈ a ↔ z ∈ b) : a.length = b.length :=
  Nat.le_antisymm (AH8 ha fun x hx => (h x).1 hx) (AH8 hb fun x hx => (h x).2 hx)
theorem Ak0 {l : List TCell} (ha : adj cLess l = true) (hv : ∀ c ∈ l, adj verLess c.Vers = true) (g a u : Int) : (feedIn l g a u).length = (rawItems l g a u).length :=
  Ao8 (AL4 (srt_dist (n1 ha hv g a u).1)) (AL4 (AI2 ha hv g a u)) (n1 ha hv g a u).2
theorem Ak1 {l l' : List TFeedItem} (hp : l'.Perm l) (hd : Dist l) (hs : SortedOn l23Ahead l' 0 l'.length) : Srt l' := by
  have hd2 : Dist l' := (hp.pairwise_iff (fun {x y} h => Cmb.symm h)).2 hd
  unfold Srt
  rw [List.pairwise_iff_getElem]
  intro i j hi hj hij
  rcases List.pairwise_iff_getElem.1 hd2 i j hi hj hij with h | h
  · exact h
  · have := hs i j _ _ (Nat.zero_le _) hij hj (List.getElem?_eq_getElem hi) (List.getElem?_eq_getElem hj)
    rw [h] at this; cases this
theorem Ao9 {l : List TCell} (ha : adj cLess l = true) (hv : ∀ c ∈ l, adj verLess c.Vers = true) {g a u : Int} {l' : List TFeedItem} (hp : l'.Perm (rawItems l g a u)) (hs : SortedOn l23Ahead l' 0 l'.length) : l' = feedIn l g a u :=
  Af9 (Ak1 hp (AI2 ha hv g a u) hs) (n1 ha hv g a u).1 fun z => by rw [hp.mem_iff, (n1 ha hv g a u).2]
theorem AD2 {l : List TCell} (h : goodCells l = true) : adj cLess l = true ∧ ∀ c ∈ l, adj verLess c.Vers = true := ⟨(Q0 h).2.1, fun c hc => ((Q0 h).2.2 c hc).2.2.2.1⟩
theorem AO2 : ∀ {l : List TCell} {g a u : Int}, (∀ c ∈ l, c.Vers.length ≤ 16) → (rawItems l g a u).length ≤ 16 * l.length
  | [], g, a, u, _ => by unfold rawItems; simp
  | c :: l, g, a, u, h => by
    have ih := AO2 (g := g) (a := a) (u := u) fun d hd => h d (List.mem_cons_of_mem _ hd)
    have h1 := h c List.mem_cons_self
    unfold rawItems at ih ⊢
    rw [List.map_cons, List.flatten_cons, I6, J9]
    have h2 : (cellItems g a u c).length ≤ c.Vers.length := by unfold cellItems; rw [A6]; exact List.length_filter_le _ _
    omega
theorem Ad5 {l : List TCell} (h : goodCells l = true) {g : Int} (hg : isGroup g = true) (a u : Int) : l23Feed (feedIn l g a u) = true ∧ (feedIn l g a u).length ≤ 384 ∧ (feedIn l g a u).length = (rawItems l g a u).length := by
  obtain ⟨f1, f2, f3⟩ := Q0 h
  obtain ⟨c1, c2⟩ := AD2 h
  obtain ⟨k1, k2⟩ := n1 c1 c2 g a u
  have hl := Ak0 c1 c2 g a u
  have hr := AO2 (g := g) (a := a) (u := u) fun c hc => (f3 c hc).2.2.1
  refine ⟨(Ab4 _).2 ⟨fun x hx => ?_, k1, by omega⟩, by omega, hl⟩
  obtain ⟨c, hc, v, hv, _, rfl⟩ := AZ6.1 ((k2 x).1 hx)
  have h1 := (f3 c hc).1
  have h2 := (f3 c hc).2.2.2.2 v hv
  rw [← Ab0]
  unfold goodItem itemOf
  unfold verGood at h2
  simp only [Bool.and_eq_true] at h2 ⊢
  exact ⟨⟨⟨h2.1, hg⟩, h1⟩, h2.2⟩
def allItems (a u : Int) : Nat → List TState → List TFeedItem
  | _, [] => []
  | i, s :: l => feedIn s.Cells i a u ++ allItems a u (i + 1) l
end Go.M

namespace Go.M
open Go.AV
end Go.M

namespace Go.M
open Go.AV
structure Fed (A : List TFeedItem) (F : Int) (p q : TState) : Prop where
  srt : Srt A
  mem : ∀ z, z ∈ A ↔ z ∈ allItems 0 F 0 [p, q]
  pos : 0 ≤ F
end Go.M

set_option maxHeartbeats 2000000
namespace Go.M
open Go.AV
end Go.M
namespace Go.Proofs.YtkegepoihkhihaaGreat
open Go Go.AV Go.M
attribute [local irreducible] OpW OpA OpS AWP FSpec ESpec GSpec OpE RetOk RetOkG RvDen Le Ev GuardIs SrcIs SrcE Int.tmod IntKind.wrap bandI
end Go.Proofs.YtkegepoihkhihaaGreat

set_option maxHeartbeats 1000000
namespace Go.Proofs.YtkegepoihkhihaaGreat
open Go Go.AV Go.M
attribute [local irreducible] OpW OpA OpS AWP FSpec ESpec GSpec OpE RetOk RetOkG RvDen Le Ev GuardIs SrcIs
theorem z6 (x y : TFeedItem) : (x.Time == y.Time && (x.Group == y.Group && (x.Key == y.Key && (x.Val == y.Val && (x.Gone == y.Gone && true))))) = decide (x = y) := by
  cases x; cases y
  rw [Bool.eq_iff_iff]
  simp
end Go.Proofs.YtkegepoihkhihaaGreat

set_option linter.unusedSectionVars false
namespace Go.M
open Go.AV
section
variable {α : Type} [Inhabited α]
structure Rot (l t : List α) (a m b : Nat) : Prop where
  out : ∀ k, k < a ∨ b ≤ k → t[k]? = l[k]?
  fst : ∀ k, k < b - m → t[a + k]? = l[m + k]?
  snd : ∀ k, k < m - a → t[a + (b - m) + k]? = l[a + k]?
end
end Go.M

namespace Go.M
open Go.AV
section
variable {α : Type} [Inhabited α] {lt : α → α → Bool}
section
variable {l t : List α} {a p m q b c : Nat}
end
end
end Go.M

namespace Go.M
open Go.AV
section
variable {α : Type} [Inhabited α] {lt : α → α → Bool}
end
end Go.M

namespace Go.M
open Go.AV
section
variable {α : Type} [Inhabited α] {lt : α → α → Bool}
end
end Go.M

namespace Go.Proofs.YtkegepoihkhihaaGreat
open Go Go.AV Go.M
attribute [local irreducible] OpW OpA OpS AWP FSpec ESpec GSpec OpE RetOk RetOkG RvDen Le Ev GuardIs SrcIs Int.tmod Int.tdiv IntKind.wrap
end Go.Proofs.YtkegepoihkhihaaGreat

namespace Go.Proofs.YtkegepoihkhihaaGreat
open Go Go.AV Go.M
attribute [local irreducible] OpW OpA OpS AWP FSpec ESpec GSpec OpE RetOk RetOkG RvDen Le Ev GuardIs SrcIs Int.tmod Int.tdiv IntKind.wrap
end Go.Proofs.YtkegepoihkhihaaGreat

namespace Go.Proofs.YtkegepoihkhihaaGreat
open Go Go.AV Go.M
attribute [local irreducible] OpW OpA OpS AWP FSpec ESpec GSpec OpE RetOk RetOkG RvDen Le Ev GuardIs SrcIs Int.tmod Int.tdiv IntKind.wrap
end Go.Proofs.YtkegepoihkhihaaGreat

namespace Go.Proofs.YtkegepoihkhihaaGreat
open Go Go.AV Go.M
attribute [local irreducible] OpW OpA OpS AWP FSpec ESpec GSpec OpE RetOk RetOkG RvDen Le Ev GuardIs SrcIs
theorem AR5 (l : List TFeedItem) (k : Nat) (x : TFeedItem) : (l.take k ++ x :: l.drop k).map TFeedItem.cs = ([] ++ (l.map TFeedItem.cs).take (k : Int).toNat ++ [x.cs]) ++ (l.map TFeedItem.cs).drop (k : Int).toNat := by simp
theorem Ak2 (v : Value) (l : List TFeedItem) (x : TFeedItem) (hl : l.length ≤ 2097152) : GSpec Tryz.prog 69 [AV.is v, AV.agg x.cs] [.arr v 63 5 (l.map TFeedItem.cs)]
   (fun _ : Value => True) (fun v' => [.arr v' 63 5 ((putR l x).1.map TFeedItem.cs)]) (fun v' => AV.tup [AV.is v', AV.bool (putR l x).2]) := by
 refine K0 Tryz.func69 rfl Tryz.ntmps69 rfl ?_
 refine A3 (A2 ?_)
 refine I8 rfl rfl rfl rfl (A0 rfl) ?_
 intro b3
 refine A1 rfl (A9 rfl S2) ?_
 refine A1 rfl (A9 rfl E3) ?_
 refine A4 (A3 (A2 ?_))
 refine A1 rfl (A9 rfl B4) ?_
 refine A4 (A3 (C4 ?_))
 refine H2 [(0, _), (3, _), (4, _), (5, _)] _ (fun (k : Nat) => k ≤ l.length ∧ ∀ i y, i < k → l[i]? = some y → l23Ahead y x = true) (fun (k : Nat) => []) (fun (k : Nat) => [(6, AV.int k)]) (fun (k : Nat) => l.length - k) (0) ?_ (H1 ⟨rfl, rfl, rfl, rfl, rfl, trivial⟩) ?_
 ·exact ⟨Nat.zero_le _, fun i y h => by omega⟩
 intro k hinv
 obtain ⟨y, hy0⟩ := u6 l k
 refine A3 (A3 ?_)
 refine H7 (by kernel_rfl) (by kernel_rfl) rfl ?_
 refine B5 rfl rfl (C2 rfl (A0 rfl)) ?_
 refine B5 rfl rfl (C2 rfl (A0 rfl)) ?_
 refine B5 rfl rfl (V3 1 rfl F9 (A0 rfl) rfl) ?_
 refine B5 rfl rfl (G0 rfl (A0 rfl) (A0 rfl)) ?_
 refine B5 rfl rfl (C2 rfl (A0 rfl)) ?_
 refine D9 rfl (S4 rfl rfl rfl) (fun hc => C2 rfl (A0 rfl)) ?_
 refine D9 rfl (S4 rfl rfl rfl) (fun hc => C2 rfl (A0 rfl)) ?_
 refine D9 rfl (S4 rfl rfl rfl) (fun hc => L0 1 rfl F9 I2 (A7 rfl hc) rfl (A7 rfl hc) (by omega) (by have := of_decide_eq_true hc; simpa using this)) ?_
 refine D9 rfl (S4 rfl rfl rfl) (fun hc => AE0 1 rfl (A7 rfl hc) rfl S8 I2 (by have h9 := of_decide_eq_true hc; simp only [Int.toNat_natCast, List.getElem?_map]; rw [hy0 (by simpa using h9)]; rfl) (by decide)) ?_
 refine D9 rfl (S4 rfl rfl rfl) (fun hc => K8 0 rfl (A0 rfl) rfl S8 I2 rfl) ?_
 refine D9 rfl (S4 rfl rfl rfl) (fun hc => E1 rfl Tryz.call109 rfl (AA4 _ _) (A8 (A7 rfl hc) (A8 (A7 rfl hc) C7))) ?_
 refine B5 rfl rfl (H5 rfl (A0 rfl) (F3 rfl)) ?_
 refine O5 ?_
 refine C0 (A0 rfl) ?_ ?_
 ·intro h18
  have hkt : k < l.length ∧ l23Ahead y x = true := by simpa using h18
  refine C1 (C4 (A2 ?_))
  refine A5 rfl ?_
  refine A1 rfl (F1 rfl (A0 rfl) B4 (by first | omega | (simp only [D4, B0, szR] at *; omega))) ?_
  refine B3 rfl ?_
  refine A4 ?_
  refine g8 ?_
  refine I0 k (k + 1) ?_ ?_ (H1 ⟨rfl, rfl, rfl, rfl, rfl, trivial⟩)
  ·exact ⟨by have := hkt.1; omega, fun i z hi hz => if e : i = k then (by subst e; rw [hy0 hkt.1] at hz; injection hz with hz; subst hz; exact hkt.2) else hinv.2 i z (by omega) hz⟩
  omega
 intro h18
 have hng : k < l.length → l23Ahead y x = false := fun h => by simpa [h] using h18
 refine F5 ?_
 refine A3 (A3 ?_)
 refine H7 (by kernel_rfl) (by kernel_rfl) rfl ?_
 refine B5 rfl rfl (C2 rfl (A0 rfl)) ?_
 refine B5 rfl rfl (C2 rfl (A0 rfl)) ?_
 refine B5 rfl rfl (V3 1 rfl F9 (A0 rfl) rfl) ?_
 refine B5 rfl rfl (G0 rfl (A0 rfl) (A0 rfl)) ?_
 refine B5 rfl rfl (C2 rfl (A0 rfl)) ?_
 refine D9 rfl (S4 rfl rfl rfl) (fun hc => K8 0 rfl (A0 rfl) rfl S8 I2 rfl) ?_
 refine D9 rfl (S4 rfl rfl rfl) (fun hc => C2 rfl (A0 rfl)) ?_
 refine D9 rfl (S4 rfl rfl rfl) (fun hc => C2 rfl (A0 rfl)) ?_
 refine D9 rfl (S4 rfl rfl rfl) (fun hc => L0 1 rfl F9 I2 (A7 rfl hc) rfl (A7 rfl hc) (by omega) (by have := of_decide_eq_true hc; simpa using this)) ?_
 refine D9 rfl (S4 rfl rfl rfl) (fun hc => AE0 1 rfl (A7 rfl hc) rfl S8 I2 (by have h9 := of_decide_eq_true hc; simp only [Int.toNat_natCast, List.getElem?_map]; rw [hy0 (by simpa using h9)]; rfl) (by decide)) ?_
 refine D9 rfl (S4 rfl rfl rfl) (fun hc => E1 rfl Tryz.call109 rfl (AA4 _ _) (A8 (A7 rfl hc) (A8 (A7 rfl hc) C7))) ?_
 refine D9 rfl (S4 rfl rfl rfl) (fun hc => J3 rfl (A7 rfl hc)) ?_
 refine B5 rfl rfl (H5 rfl (A0 rfl) (F3 rfl)) ?_
 refine O5 ?_
 refine C0 (A0 rfl) ?_ ?_
 ·intro h33
  have hk2 : k < l.length ∧ l23Ahead x y = false := by simpa using h33
  rw [An0 hinv.1 hinv.2 (hy0 hk2.1) hk2.2 (hng hk2.1)]
  refine A3 ?_
  refine H7 (by kernel_rfl) (by kernel_rfl) rfl ?_
  refine B5 rfl rfl (C2 rfl (A0 rfl)) ?_
  refine B5 rfl rfl (C2 rfl (A0 rfl)) ?_
  refine B5 rfl rfl (C2 rfl (A0 rfl)) ?_
  refine B5 rfl rfl (L0 1 rfl F9 I2 (A0 rfl) rfl (A0 rfl) (by omega) (by simp only [A6]; omega)) ?_
  refine B5 rfl rfl (AE0 1 rfl (A0 rfl) rfl S8 I2 (by simp only [Int.toNat_natCast, List.getElem?_map]; rw [hy0 hk2.1]; rfl) (by decide)) ?_
  refine B5 rfl rfl (K8 0 rfl (A0 rfl) rfl S8 I2 rfl) ?_
  refine B5 rfl rfl (w_aeql rfl G4 (by kernel_rfl) (by kernel_rfl) (A0 rfl) (A0 rfl) (o5 (by kernel_rfl) D2 rfl rfl (Ae8 M9) (o5 (by kernel_rfl) D2 rfl rfl (Ae8 M9) (o5 (by kernel_rfl) E5 rfl rfl (Ae9 I3) (o5 (by kernel_rfl) E5 rfl rfl (Ae9 I3) (o5 (by kernel_rfl) I5 rfl rfl (eqf_bool N5) eqf_nil)))))) ?_
  refine B5 rfl rfl (A9 rfl (A0 rfl)) ?_
  refine B5 rfl rfl (A9 rfl (A0 rfl)) ?_
  refine O5 ?_
  refine B8 ?_
  exact V4 [1] v (trivial) rfl (by first | rfl | exact congrArg (fun z => [Own.arr _ 63 5 z]) (AR5 _ _ _)) (resN rfl (by decide) (N8 (B7 rfl (by first | rfl | exact congrArg AV.bool (z6 _ _))) (N8 (B7 rfl (by first | rfl | exact congrArg AV.bool (z6 _ _))) W6)))
 intro h33
 rw [putR_end hinv.1 hinv.2 (fun z hz => by (have h7 := (List.getElem?_eq_some_iff.1 hz).1; rw [hy0 h7] at hz; injection hz with hz; subst hz; simpa [h7] using h33)) (fun z hz => by (have h7 := (List.getElem?_eq_some_iff.1 hz).1; rw [hy0 h7] at hz; injection hz with hz; subst hz; exact hng h7))]
 refine C1 (A3 ?_)
 refine AM3 _ [(1, false), (2, false), (3, false), (5, false), (6, false), (8, false), (9, false), (10, false), (0, true), (4, true), (7, true), (11, true)] (by kernel_rfl) (by kernel_rfl) rfl Am0 ?_
 refine Z9 rfl rfl rfl (fun ext => C2 rfl (A0 rfl)) ?_
 refine Z9 rfl rfl rfl (fun ext => C2 rfl (A0 rfl)) ?_
 refine Z9 rfl rfl rfl (fun ext => w_ahiT 1 rfl F9 I2 (A0 rfl) rfl (A0 rfl) (by omega) (by simp only [A6]; omega)) ?_
 refine Z9 rfl rfl rfl (fun ext => K8 0 rfl (A0 rfl) rfl S8 I2 rfl) ?_
 refine Z9 rfl rfl rfl (fun ext => X8 rfl F9 I2 Tryz.zeroValue63 rfl rfl rfl rfl (N3 (A0 rfl) (J4 _) W7) rfl rfl) ?_
 refine Z9 rfl rfl rfl (fun ext => C2 rfl (A0 rfl)) ?_
 refine Z9 rfl rfl rfl (fun ext => C2 rfl (A0 rfl)) ?_
 refine Z9 rfl rfl rfl (fun ext => AT9 1 rfl F9 I2 (A0 rfl) rfl (A0 rfl) (by omega) (by simp only [A6]; omega)) ?_
 refine AJ1 rfl rfl rfl (Am2 rfl F9 I2) (fun a _ => (by first | exact Z2 rfl | exact Z2 (List.append_assoc _ _ _) | exact o7)) ?_
 intro v41 _
 refine AJ1 rfl rfl rfl (AF7 (by' := 56) 2 rfl F9 Tryz.type63 rfl rfl rfl rfl rfl rfl (A0 rfl) (Ao3 1 rfl (A0 rfl) (by simp only [A6, Int.toNat_natCast]; omega)) rfl (by simp only [X3, List.nil_append, I6, F4, List.length_drop, A6, J9, B0]; omega)) (fun a _ => (by first | exact Z2 rfl | exact Z2 (List.append_assoc _ _ _) | exact o7)) ?_
 intro v45_1 _
 refine AJ1 rfl rfl rfl (Ah7 (by' := 56) 2 rfl F9 Tryz.type63 rfl rfl rfl rfl rfl rfl (A0 rfl) (A0 rfl) rfl (by simp only [X3, List.nil_append, I6, F4, List.length_drop, A6, J9, B0]; omega)) (fun a _ => (by first | exact Z2 rfl | exact Z2 (List.append_assoc _ _ _) | exact o7)) ?_
 intro v48_2 _
 refine AJ1 rfl rfl rfl (AF7 (by' := 56) 2 rfl F9 Tryz.type63 rfl rfl rfl rfl rfl rfl (A0 rfl) (Ao2 1 rfl (A0 rfl) (by simp only [A6, Int.toNat_natCast]; omega)) rfl (by simp only [X3, List.nil_append, I6, F4, List.length_drop, A6, J9, B0]; omega)) (fun a _ => (by first | exact Z2 rfl | exact Z2 (List.append_assoc _ _ _) | exact o7)) ?_
 intro v52_3 _
 refine bc_nil ?_
 refine B3 rfl ?_
 refine A1 rfl (A9 rfl E3) ?_
 refine A4 ?_
 refine B8 ?_
 exact V4 [2] v52_3 (trivial) rfl (by first | rfl | exact congrArg (fun z => [Own.arr _ 63 5 z]) (AR5 _ _ _)) (resN rfl (by decide) (N8 (B7 rfl (by first | rfl | exact congrArg AV.bool (z6 _ _))) (N8 (B7 rfl (by first | rfl | exact congrArg AV.bool (z6 _ _))) W6)))

end Go.Proofs.YtkegepoihkhihaaGreat

set_option maxHeartbeats 2000000
namespace Go.M
open Go.AV
theorem AD3 {α : Type} {p : α → Bool} {l : List α} {i : Nat} {x : α} (h : l[i]? = some x) : (l.take (i + 1)).filter p = (l.take i).filter p ++ (if p x = true then [x] else []) := by
  rw [List.take_add_one, h, List.filter_append]
  cases hp : p x <;> simp [hp]
theorem raw_take {l : List TCell} {i : Nat} {c : TCell} {g a u : Int} (h : l[i]? = some c) : rawItems (l.take (i + 1)) g a u = rawItems (l.take i) g a u ++ cellItems g a u c := by
  unfold rawItems; rw [List.take_add_one, h, List.map_append, List.flatten_append]; simp
def partItems (l : List TCell) (i : Nat) (c : TCell) (j : Nat) (g a u : Int) : List TFeedItem := rawItems (l.take i) g a u ++ ((c.Vers.take j).filter (inTime a u)).map (itemOf g c.Key)
theorem AD4 (l : List TCell) (i : Nat) (c : TCell) (g a u : Int) : partItems l i c 0 g a u = rawItems (l.take i) g a u := by unfold partItems; simp
theorem AR6 {l : List TCell} {i : Nat} {c : TCell} {g a u : Int} {j : Nat} (h : l[i]? = some c) (hj : c.Vers.length ≤ j) : partItems l i c j g a u = rawItems (l.take (i + 1)) g a u := by
  unfold partItems; rw [raw_take h, List.take_of_length_le hj]; rfl
theorem z7 {l : List TCell} {i : Nat} {c : TCell} {g a u : Int} {j : Nat} {v : TVer} (h : c.Vers[j]? = some v) (hp : inTime a u v = true) : partItems l i c (j + 1) g a u = partItems l i c j g a u ++ [itemOf g c.Key v] := by
  unfold partItems; rw [AD3 h, if_pos hp, List.map_append, List.append_assoc]; rfl
theorem AE5 {l : List TCell} {i : Nat} {c : TCell} {g a u : Int} {j : Nat} {v : TVer} (h : c.Vers[j]? = some v) (hp : inTime a u v = false) : partItems l i c (j + 1) g a u = partItems l i c j g a u := by
  unfold partItems; rw [AD3 h, if_neg (by rw [hp]; decide), List.append_nil]
theorem AI3 {l : List TCell} (h : goodCells l = true) {i : Nat} {c : TCell} {g a u : Int} {j : Nat} (hj : j ≤ 16) : (partItems l i c j g a u).length ≤ 1000 := by
  obtain ⟨f1, f2, f3⟩ := Q0 h
  have h1 := AO2 (l := l.take i) (g := g) (a := a) (u := u) fun c hc => (f3 c (List.mem_of_mem_take hc)).2.2.1
  have h2 : ((c.Vers.take j).filter (inTime a u)).length ≤ j := Nat.le_trans (List.length_filter_le _ _) (List.length_take_le _ _)
  have h3 : (l.take i).length ≤ l.length := List.length_take_le' _ _
  unfold partItems
  rw [I6, A6]; omega
theorem AL5 {o l : List TFeedItem} {x : TFeedItem} : M.insAll o (l ++ [x]) = (putR (M.insAll o l) x).1 := by unfold M.insAll; rw [List.foldl_append]; rfl
theorem AG1 : ∀ {l o : List TFeedItem}, (M.insAll o l).length ≤ o.length + l.length
  | [], o => Nat.le_refl _
  | x :: l, o => by
    have h1 := AG1 (l := l) (o := (putR o x).1)
    have h2 := AW5 x o
    show (M.insAll (putR o x).1 l).length ≤ _
    rw [J9]; omega
def itemsR (s : TState) (g a u : Int) : List TFeedItem × Bool := if (((goodState s && isGroup g) && isTrue a) && isTrue u) && decide (a ≤ u) = true then (feedIn s.Cells g a u, true) else ([], false)
end Go.M
namespace Go.Proofs.YtkegepoihkhihaaGreat
open Go Go.AV Go.M
attribute [local irreducible] OpW OpA OpS AWP FSpec ESpec GSpec OpE RetOk RetOkG RvDen Le Ev GuardIs SrcIs SrcE Int.tmod IntKind.wrap bandI
theorem Ad6 (s : TState) (g a u : Int) (hg : goodCells s.Cells = true) : GSpec Tryz.prog 53 [AV.agg s.cs, AV.int g, AV.int a, AV.int u] [] (fun _ : Value => True) (fun v => [.arr v 63 5 ((feedIn s.Cells g a u).map TFeedItem.cs)]) (fun v => AV.is v) := by
 obtain ⟨f1, f2, f3⟩ := Q0 hg
 refine K0 Tryz.func53 rfl Tryz.ntmps53 rfl ?_
 refine A3 (A2 ?_)
 refine I8 rfl rfl rfl rfl (A0 rfl) ?_
 intro b4
 refine A1 rfl (A9 rfl S2) ?_
 refine A4 (A3 (A2 ?_))
 refine W9 rfl rfl rfl rfl F9 I2 ?_
 intro v14
 refine B3 rfl ?_
 refine A4 (A3 (A3 (A2 ?_)))
 refine A1 rfl (B2 1 rfl E2 rfl K5 (A0 rfl) rfl) ?_
 refine A1 rfl (B1 1 rfl (A0 rfl) rfl N1 rfl) ?_
 refine A1 rfl (E9 rfl F0 (A0 rfl)) ?_
 refine A1 rfl (C2 rfl B4) ?_
 refine A4 (C4 ?_)
 refine AWP.le (Q3 [0] rfl) ?_
 refine J8 [(1, _), (2, _), (3, _), (8, _), (16, _), (17, _)] _ (fun (i : Nat) (v : Value) => i ≤ s.Cells.length) (fun (i : Nat) (v : Value) => [.arr v 63 5 ((rawItems (s.Cells.take i) g a u).map TFeedItem.cs)]) (fun (i : Nat) (v : Value) => [(9, AV.is v), (18, AV.int i)]) (fun (i : Nat) (v : Value) => s.Cells.length - i) (0) (v14) ?_ (K7 (by rfl) ⟨rfl, rfl, rfl, rfl, rfl, rfl, rfl, rfl, trivial⟩) ?_
 ·exact Nat.zero_le _
 intro i v hinv
 refine A3 (A2 ?_)
 refine A1 rfl (G0 rfl (A0 rfl) (A0 rfl)) ?_
 refine A4 (A3 ?_)
 refine C0 (A0 rfl) ?_ ?_
 ·intro h19
  have k19 := of_decide_eq_true h19; try simp only [A6] at k19
  have hlt : i < s.Cells.length := by (simpa using h19)
  obtain ⟨c, hx⟩ := get_some hlt
  have hcf := f3 c (H4 hx)
  refine C1 (A3 (C4 (A3 (A2 ?_))))
  refine A1 rfl (I9 rfl F0 E8 (A0 rfl) (A0 rfl) hx (by first | omega | (simp only [D4, B0, szR] at *; omega))) ?_
  refine A1 rfl (H8 rfl (A0 rfl) L9 E8) ?_
  refine I1 rfl rfl rfl rfl Tryz.zeroValue125 rfl ?_
  intro b11
  refine H9 0 rfl rfl rfl (A0 rfl) (A0 rfl) (J4 _) rfl E8 rfl ?_
  refine A4 (A3 (A2 ?_))
  refine A1 rfl (B2 1 rfl F2 rfl K2 (A0 rfl) rfl) ?_
  refine A1 rfl (B1 0 rfl (A0 rfl) rfl M0 rfl) ?_
  refine A1 rfl (E9 rfl G5 (A0 rfl)) ?_
  refine A1 rfl (C2 rfl B4) ?_
  refine A4 (C4 ?_)
  refine AWP.le (Q3 [1, 0] rfl) ?_
  refine J8 [(1, _), (2, _), (3, _), (8, _), (11, _), (16, _), (17, _), (18, _), (19, _), (20, _), (21, _), (22, _), (23, _), (24, _)] _ (fun (j : Nat) (w : Value) => j ≤ c.Vers.length) (fun (j : Nat) (w : Value) => [.arr w 63 5 ((partItems s.Cells i c j g a u).map TFeedItem.cs), .box b11 125 c.cs]) (fun (j : Nat) (w : Value) => [(9, AV.is w), (25, AV.int j)]) (fun (j : Nat) (w : Value) => c.Vers.length - j) (0) (v) ?_ (K7 (by (rw [AD4]; rfl)) ⟨rfl, rfl, rfl, rfl, rfl, rfl, rfl, rfl, rfl, rfl, rfl, rfl, rfl, rfl, rfl, rfl, trivial⟩) ?_
  ·exact Nat.zero_le _
  intro j w hinv
  refine A3 (A2 ?_)
  refine A1 rfl (G0 rfl (A0 rfl) (A0 rfl)) ?_
  refine A4 (A3 ?_)
  refine C0 (A0 rfl) ?_ ?_
  ·intro h26
   have k26 := of_decide_eq_true h26; try simp only [A6] at k26
   have hlt1 : j < c.Vers.length := by (simpa using h26)
   obtain ⟨y, hy⟩ := get_some hlt1
   have hpl := AI3 hg (i := i) (c := c) (g := g) (a := a) (u := u) (j := j) (by omega)
   refine C1 (A3 (C4 (A3 (A2 ?_))))
   refine A1 rfl (I9 rfl G5 I4 (A0 rfl) (A0 rfl) hy (by first | omega | (simp only [D4, B0, szR] at *; omega))) ?_
   refine A1 rfl (H8 rfl (A0 rfl) U2 I4) ?_
   refine I1 rfl rfl rfl rfl Tryz.zeroValue127 rfl ?_
   intro b13
   refine H9 0 rfl rfl rfl (A0 rfl) (A0 rfl) (J4 _) rfl I4 rfl ?_
   refine A4 (A3 (A2 ?_))
   refine A1 rfl (B2 0 rfl F7 rfl B9 (A0 rfl) rfl) ?_
   refine A1 rfl (B1 0 rfl (A0 rfl) rfl D2 rfl) ?_
   refine A5 rfl ?_
   refine A1 rfl (R4 rfl (A0 rfl) (A0 rfl)) ?_
   refine A5 rfl ?_
   refine D1 rfl (fun hc => B2 0 rfl F7 rfl B9 (A0 rfl) rfl) ?_
   refine D1 rfl (fun hc => B1 0 rfl (A7 rfl hc) rfl D2 rfl) ?_
   refine D1 rfl (fun hc => C2 rfl (A0 rfl)) ?_
   refine D1 rfl (fun hc => R7 rfl (A7 rfl hc) (A7 rfl hc)) ?_
   refine A1 rfl (H5 rfl (A0 rfl) (F3 rfl)) ?_
   refine A4 ?_
   refine C0 (A0 rfl) ?_ ?_
   ·intro h38
    refine A2 ?_
    refine A5 rfl ?_
    refine A1 rfl (B2 0 rfl F7 rfl B9 (A0 rfl) rfl) ?_
    refine A1 rfl (B1 0 rfl (A0 rfl) rfl D2 rfl) ?_
    refine A5 rfl ?_
    refine A1 rfl (B2 0 rfl F2 rfl C6 (A0 rfl) rfl) ?_
    refine A1 rfl (B1 2 rfl (A0 rfl) rfl E5 rfl) ?_
    refine A1 rfl (B2 1 rfl F7 rfl C6 (A0 rfl) rfl) ?_
    refine A1 rfl (B1 0 rfl (A0 rfl) rfl E5 rfl) ?_
    refine A1 rfl (B2 2 rfl F7 rfl F8 (A0 rfl) rfl) ?_
    refine A1 rfl (B1 0 rfl (A0 rfl) rfl I5 rfl) ?_
    refine A1 rfl (u4 (places := #[(0, 1), (1, 1), (2, 1), (3, 1), (4, 1)]) rfl G4 Tryz.zeroValue63 (fun w => by kernel_rfl) rfl (N3 (A0 rfl) (P9 _ _) (N3 (A0 rfl) (P9 _ _) (N3 (A0 rfl) (Q7 _) (N3 (A0 rfl) (Q7 _) (N3 (A0 rfl) (c4 _) W7))))) rfl) ?_
    refine A1 rfl (X8 rfl F9 I2 Tryz.zeroValue63 rfl rfl rfl rfl (N3 (A0 rfl) (J4 _) W7) rfl rfl) ?_
    refine U8 (by' := 56) 1 rfl rfl rfl rfl F9 Tryz.type63 rfl rfl rfl rfl rfl rfl (A0 rfl) (A0 rfl) rfl (by simp only [A6, B0]; omega) ?_
    intro v51_1
    refine B3 rfl ?_
    refine A4 (A2 ?_)
    refine A1 rfl (F1 rfl (A0 rfl) B4 (by first | omega | (simp only [D4, B0, szR] at *; omega))) ?_
    refine A5 rfl ?_
    refine A4 ?_
    refine J2 j w (j + 1) (v51_1) ?_ ?_ (Le.trans (Q3 [0, 0, 0] rfl) (S5 1 (by first | (rw [z7 hy h38, List.map_append]; rfl) | (rw [AE5 hy h38]; rfl)) ⟨rfl, rfl, rfl, rfl, rfl, rfl, rfl, rfl, rfl, rfl, rfl, rfl, rfl, rfl, rfl, rfl, trivial⟩))
    ·exact (by omega)
    omega
   intro h38
   refine C1 (A2 ?_)
   refine A1 rfl (F1 rfl (A0 rfl) B4 (by first | omega | (simp only [D4, B0, szR] at *; omega))) ?_
   refine A5 rfl ?_
   refine A4 ?_
   refine J2 j w (j + 1) (w) ?_ ?_ (Le.trans (Q3 [0, 0, 0] rfl) (S5 1 (by first | (rw [z7 hy h38, List.map_append]; rfl) | (rw [AE5 hy h38]; rfl)) ⟨rfl, rfl, rfl, rfl, rfl, rfl, rfl, rfl, rfl, rfl, rfl, rfl, rfl, rfl, rfl, rfl, trivial⟩))
   ·exact (by omega)
   omega
  intro h26
  have k26 := of_decide_eq_false h26; try simp only [A6] at k26
  have hge1 : c.Vers.length ≤ j := by (simpa using h26)
  refine F5 ?_
  refine A2 ?_
  refine A1 rfl (F1 rfl (A0 rfl) B4 (by first | omega | (simp only [D4, B0, szR] at *; omega))) ?_
  refine A5 rfl ?_
  refine A4 ?_
  refine J2 i v (i + 1) (w) ?_ ?_ (Le.trans (Q3 [1, 0] rfl) (S5 1 (by (rw [AR6 hx hge1]; rfl)) ⟨rfl, rfl, rfl, rfl, rfl, rfl, rfl, rfl, trivial⟩))
  ·exact (by omega)
  omega
 intro h19
 have k19 := of_decide_eq_false h19; try simp only [A6] at k19
 have hge : s.Cells.length ≤ i := by (simpa using h19)
 rw [List.take_of_length_le hge]
 refine F5 ?_
 refine A3 (A2 ?_)
 refine A5 rfl ?_
 refine r6 [0] rfl rfl rfl rfl Tryz.call63 rfl (AM9 v (rawItems s.Cells g a u) (by have h9 := AI3 hg (i := s.Cells.length) (c := ⟨[], []⟩) (g := g) (a := a) (u := u) (j := 0) (by omega); rw [AD4, List.take_of_length_le (Nat.le_refl _)] at h9; omega)) rfl (L2 (evb (A0 rfl)) (L2 (evb ev_func) T1)) (by first | exact H6 | (intro _; exact H6) | (intro _; first | exact E0 _ | exact C8 _ _ | exact C3 _ | exact D0 _ | exact C9) | (intro _; refine U4 ?_; (repeat (first | exact C5 | (refine B6 (by first | (first | exact E0 _ | exact C8 _ _ | exact C3 _ | exact D0 _ | exact C9) | (refine N9 ?_; (repeat (first | exact C5 | (refine B6 (by first | exact E0 _ | exact C8 _ _ | exact C3 _ | exact D0 _ | exact C9) ?_))))) ?_))); done) | (intro _; refine N9 ?_; (repeat (first | exact C5 | (refine B6 (by first | exact E0 _ | exact C8 _ _ | exact C3 _ | exact D0 _ | exact C9) ?_))); done) | ((repeat (first | exact H6 | (refine H0 (M3 ?_) ?_; (repeat (first | exact C5 | (refine B6 (by first | exact E0 _ | exact C8 _ _ | exact C3 _ | exact D0 _ | exact C9) ?_)))) | (refine H0 (M4 ?_) ?_; (repeat (first | exact M5 | (refine M7 (fun _ => ?_); (first | exact TWrite.flat _ | exact TFeedItem.flat _ | exact TIdx.flat _ | exact TVer.flat _ | (repeat (first | exact C5 | (refine B6 (by first | exact E0 _ | exact C8 _ _ | exact C3 _ | exact D0 _ | exact C9) ?_))))) | (refine M8 ?_; (first | exact TWrite.flat _ | exact TFeedItem.flat _ | exact TIdx.flat _ | exact TVer.flat _ | (repeat (first | exact C5 | (refine B6 (by first | exact E0 _ | exact C8 _ _ | exact C3 _ | exact D0 _ | exact C9) ?_))))) | (refine L4 ?_ ?_; (first | exact TWrite.flat _ | exact TFeedItem.flat _ | exact TIdx.flat _ | exact TVer.flat _ | (repeat (first | exact C5 | (refine B6 (by first | exact E0 _ | exact C8 _ _ | exact C3 _ | exact D0 _ | exact C9) ?_))))) | refine M6 ?_ ?_))))); done) | (intro _; (repeat (first | exact H6 | (refine H0 (M3 ?_) ?_; (repeat (first | exact C5 | (refine B6 (by first | exact E0 _ | exact C8 _ _ | exact C3 _ | exact D0 _ | exact C9) ?_)))) | (refine H0 (M4 ?_) ?_; (repeat (first | exact M5 | (refine M7 (fun _ => ?_); (first | exact TWrite.flat _ | exact TFeedItem.flat _ | exact TIdx.flat _ | exact TVer.flat _ | (repeat (first | exact C5 | (refine B6 (by first | exact E0 _ | exact C8 _ _ | exact C3 _ | exact D0 _ | exact C9) ?_))))) | (refine M8 ?_; (first | exact TWrite.flat _ | exact TFeedItem.flat _ | exact TIdx.flat _ | exact TVer.flat _ | (repeat (first | exact C5 | (refine B6 (by first | exact E0 _ | exact C8 _ _ | exact C3 _ | exact D0 _ | exact C9) ?_))))) | (refine L4 ?_ ?_; (first | exact TWrite.flat _ | exact TFeedItem.flat _ | exact TIdx.flat _ | exact TVer.flat _ | (repeat (first | exact C5 | (refine B6 (by first | exact E0 _ | exact C8 _ _ | exact C3 _ | exact D0 _ | exact C9) ?_))))) | refine M6 ?_ ?_))))); done)) (by first | exact H6 | (intro _; exact H6) | (intro _; first | exact E0 _ | exact C8 _ _ | exact C3 _ | exact D0 _ | exact C9) | (intro _; refine U4 ?_; (repeat (first | exact C5 | (refine B6 (by first | (first | exact E0 _ | exact C8 _ _ | exact C3 _ | exact D0 _ | exact C9) | (refine N9 ?_; (repeat (first | exact C5 | (refine B6 (by first | exact E0 _ | exact C8 _ _ | exact C3 _ | exact D0 _ | exact C9) ?_))))) ?_))); done) | (intro _; refine N9 ?_; (repeat (first | exact C5 | (refine B6 (by first | exact E0 _ | exact C8 _ _ | exact C3 _ | exact D0 _ | exact C9) ?_))); done) | ((repeat (first | exact H6 | (refine H0 (M3 ?_) ?_; (repeat (first | exact C5 | (refine B6 (by first | exact E0 _ | exact C8 _ _ | exact C3 _ | exact D0 _ | exact C9) ?_)))) | (refine H0 (M4 ?_) ?_; (repeat (first | exact M5 | (refine M7 (fun _ => ?_); (first | exact TWrite.flat _ | exact TFeedItem.flat _ | exact TIdx.flat _ | exact TVer.flat _ | (repeat (first | exact C5 | (refine B6 (by first | exact E0 _ | exact C8 _ _ | exact C3 _ | exact D0 _ | exact C9) ?_))))) | (refine M8 ?_; (first | exact TWrite.flat _ | exact TFeedItem.flat _ | exact TIdx.flat _ | exact TVer.flat _ | (repeat (first | exact C5 | (refine B6 (by first | exact E0 _ | exact C8 _ _ | exact C3 _ | exact D0 _ | exact C9) ?_))))) | (refine L4 ?_ ?_; (first | exact TWrite.flat _ | exact TFeedItem.flat _ | exact TIdx.flat _ | exact TVer.flat _ | (repeat (first | exact C5 | (refine B6 (by first | exact E0 _ | exact C8 _ _ | exact C3 _ | exact D0 _ | exact C9) ?_))))) | refine M6 ?_ ?_))))); done) | (intro _; (repeat (first | exact H6 | (refine H0 (M3 ?_) ?_; (repeat (first | exact C5 | (refine B6 (by first | exact E0 _ | exact C8 _ _ | exact C3 _ | exact D0 _ | exact C9) ?_)))) | (refine H0 (M4 ?_) ?_; (repeat (first | exact M5 | (refine M7 (fun _ => ?_); (first | exact TWrite.flat _ | exact TFeedItem.flat _ | exact TIdx.flat _ | exact TVer.flat _ | (repeat (first | exact C5 | (refine B6 (by first | exact E0 _ | exact C8 _ _ | exact C3 _ | exact D0 _ | exact C9) ?_))))) | (refine M8 ?_; (first | exact TWrite.flat _ | exact TFeedItem.flat _ | exact TIdx.flat _ | exact TVer.flat _ | (repeat (first | exact C5 | (refine B6 (by first | exact E0 _ | exact C8 _ _ | exact C3 _ | exact D0 _ | exact C9) ?_))))) | (refine L4 ?_ ?_; (first | exact TWrite.flat _ | exact TFeedItem.flat _ | exact TIdx.flat _ | exact TVer.flat _ | (repeat (first | exact C5 | (refine B6 (by first | exact E0 _ | exact C8 _ _ | exact C3 _ | exact D0 _ | exact C9) ?_))))) | refine M6 ?_ ?_))))); done)) (by first | exact H6 | (intro _; exact H6) | (intro _; first | exact E0 _ | exact C8 _ _ | exact C3 _ | exact D0 _ | exact C9) | (intro _; refine U4 ?_; (repeat (first | exact C5 | (refine B6 (by first | (first | exact E0 _ | exact C8 _ _ | exact C3 _ | exact D0 _ | exact C9) | (refine N9 ?_; (repeat (first | exact C5 | (refine B6 (by first | exact E0 _ | exact C8 _ _ | exact C3 _ | exact D0 _ | exact C9) ?_))))) ?_))); done) | (intro _; refine N9 ?_; (repeat (first | exact C5 | (refine B6 (by first | exact E0 _ | exact C8 _ _ | exact C3 _ | exact D0 _ | exact C9) ?_))); done) | ((repeat (first | exact H6 | (refine H0 (M3 ?_) ?_; (repeat (first | exact C5 | (refine B6 (by first | exact E0 _ | exact C8 _ _ | exact C3 _ | exact D0 _ | exact C9) ?_)))) | (refine H0 (M4 ?_) ?_; (repeat (first | exact M5 | (refine M7 (fun _ => ?_); (first | exact TWrite.flat _ | exact TFeedItem.flat _ | exact TIdx.flat _ | exact TVer.flat _ | (repeat (first | exact C5 | (refine B6 (by first | exact E0 _ | exact C8 _ _ | exact C3 _ | exact D0 _ | exact C9) ?_))))) | (refine M8 ?_; (first | exact TWrite.flat _ | exact TFeedItem.flat _ | exact TIdx.flat _ | exact TVer.flat _ | (repeat (first | exact C5 | (refine B6 (by first | exact E0 _ | exact C8 _ _ | exact C3 _ | exact D0 _ | exact C9) ?_))))) | (refine L4 ?_ ?_; (first | exact TWrite.flat _ | exact TFeedItem.flat _ | exact TIdx.flat _ | exact TVer.flat _ | (repeat (first | exact C5 | (refine B6 (by first | exact E0 _ | exact C8 _ _ | exact C3 _ | exact D0 _ | exact C9) ?_))))) | refine M6 ?_ ?_))))); done) | (intro _; (repeat (first | exact H6 | (refine H0 (M3 ?_) ?_; (repeat (first | exact C5 | (refine B6 (by first | exact E0 _ | exact C8 _ _ | exact C3 _ | exact D0 _ | exact C9) ?_)))) | (refine H0 (M4 ?_) ?_; (repeat (first | exact M5 | (refine M7 (fun _ => ?_); (first | exact TWrite.flat _ | exact TFeedItem.flat _ | exact TIdx.flat _ | exact TVer.flat _ | (repeat (first | exact C5 | (refine B6 (by first | exact E0 _ | exact C8 _ _ | exact C3 _ | exact D0 _ | exact C9) ?_))))) | (refine M8 ?_; (first | exact TWrite.flat _ | exact TFeedItem.flat _ | exact TIdx.flat _ | exact TVer.flat _ | (repeat (first | exact C5 | (refine B6 (by first | exact E0 _ | exact C8 _ _ | exact C3 _ | exact D0 _ | exact C9) ?_))))) | (refine L4 ?_ ?_; (first | exact TWrite.flat _ | exact TFeedItem.flat _ | exact TIdx.flat _ | exact TVer.flat _ | (repeat (first | exact C5 | (refine B6 (by first | exact E0 _ | exact C8 _ _ | exact C3 _ | exact D0 _ | exact C9) ?_))))) | refine M6 ?_ ?_))))); done)) ?_
 intro x55 ok55
 have he := Ao9 (AD2 hg).1 (AD2 hg).2 ok55.1 ok55.2
 subst he
 refine A4 (A3 (A2 ?_))
 refine A5 rfl ?_
 refine B3 rfl ?_
 refine A4 ?_
 refine B8 ?_
 exact V4 [0] v (trivial) rfl (by rfl) (U3 rfl (B7 rfl (by rfl)))
theorem AD5 (s : TState) (g a u : Int) (hs : s.size ≤ 1048576) : GSpec Tryz.prog 17 [AV.agg s.cs, AV.int g, AV.int a, AV.int u] [] (fun _ : Value => True) (fun v => [.arr v 63 5 ((itemsR s g a u).1.map TFeedItem.cs)]) (fun v => AV.tup [AV.is v, AV.bool (itemsR s g a u).2]) := by
 refine K0 Tryz.func17 rfl Tryz.ntmps17 rfl ?_
 refine A3 (A2 ?_)
 refine I8 rfl rfl rfl rfl (A0 rfl) ?_
 intro b4
 refine A1 rfl (A9 rfl S2) ?_
 refine A1 rfl (A9 rfl E3) ?_
 refine A4 (A3 (A3 (A2 ?_)))
 refine A1 rfl (K8 0 rfl (A0 rfl) rfl O0 L3 rfl) ?_
 refine A1 rfl (E1 rfl Tryz.call50 rfl (AO0 _ (by first | assumption | omega)) (A8 (A0 rfl) C7)) ?_
 refine A1 rfl (J3 rfl (A0 rfl)) ?_
 refine A5 rfl ?_
 refine H3 rfl (fun hc => C2 rfl (A0 rfl)) ?_
 refine H3 rfl (fun hc => E1 rfl Tryz.call51 rfl (AV5 _) (A8 (A7 rfl hc) C7)) ?_
 refine H3 rfl (fun hc => J3 rfl (A7 rfl hc)) ?_
 refine A1 rfl (O1 rfl (A0 rfl) (F3 rfl)) ?_
 refine A5 rfl ?_
 refine H3 rfl (fun hc => C2 rfl (A0 rfl)) ?_
 refine H3 rfl (fun hc => E1 rfl Tryz.call52 rfl (t7 _) (A8 (A7 rfl hc) C7)) ?_
 refine H3 rfl (fun hc => J3 rfl (A7 rfl hc)) ?_
 refine A1 rfl (O1 rfl (A0 rfl) (F3 rfl)) ?_
 refine A5 rfl ?_
 refine H3 rfl (fun hc => C2 rfl (A0 rfl)) ?_
 refine H3 rfl (fun hc => E1 rfl Tryz.call52 rfl (t7 _) (A8 (A7 rfl hc) C7)) ?_
 refine H3 rfl (fun hc => J3 rfl (A7 rfl hc)) ?_
 refine A1 rfl (O1 rfl (A0 rfl) (F3 rfl)) ?_
 refine A5 rfl ?_
 refine H3 rfl (fun hc => C2 rfl (A0 rfl)) ?_
 refine H3 rfl (fun hc => C2 rfl (A0 rfl)) ?_
 refine H3 rfl (fun hc => R4 rfl (A7 rfl hc) (A7 rfl hc)) ?_
 refine A1 rfl (O1 rfl (A0 rfl) (F3 rfl)) ?_
 refine A4 ?_
 refine C0 (A0 rfl) ?_ ?_
 ·intro h32
  have he : itemsR s g a u = ([], false) := (by unfold itemsR; rw [if_neg (by intro hc; simp only [Bool.and_eq_true, decide_eq_true_eq] at hc; simp [hc.1.1.1.1, hc.1.1.1.2, hc.1.1.2, hc.1.2] at h32; omega)])
  rw [he]
  refine A3 (A2 ?_)
  refine A1 rfl (A9 rfl S2) ?_
  refine A1 rfl (A9 rfl E3) ?_
  refine A4 ?_
  refine B8 ?_
  refine retG_nil 63 5 ?_
  exact V4 [0] (Value.slice none 0 0) (trivial) rfl (by rfl) (resN rfl (by decide) (N8 (B7 rfl (by rfl)) (N8 (B7 rfl (by rfl)) W6)))
 intro h32
 have hgs : goodState s = true := (by cases hb : goodState s with | true => rfl | false => (rw [hb] at h32; simp at h32))
 have he : itemsR s g a u = (feedIn s.Cells g a u, true) := (by unfold itemsR; rw [if_pos (by simp only [Bool.or_eq_false_iff, Bool.not_eq_false', decide_eq_false_iff_not] at h32; simp only [Bool.and_eq_true, decide_eq_true_eq]; exact ⟨h32.1, by omega⟩)])
 rw [he]
 refine C1 (A3 (A2 ?_))
 refine A1 rfl (K8 0 rfl (A0 rfl) rfl O0 L3 rfl) ?_
 refine A5 rfl ?_
 refine A5 rfl ?_
 refine A5 rfl ?_
 refine Q8 [] rfl rfl rfl rfl Tryz.call53 rfl (Ad6 s g a u (n3.1 hgs).cells) (A8 (A0 rfl) (A8 (A0 rfl) (A8 (A0 rfl) (A8 (A0 rfl) C7)))) rfl ?_
 intro x37 ok37
 refine B3 rfl ?_
 refine A1 rfl (A9 rfl E3) ?_
 refine A4 ?_
 refine B8 ?_
 exact V4 [0] x37 (trivial) rfl (by rfl) (resN rfl (by decide) (N8 (B7 rfl (by rfl)) (N8 (B7 rfl (by rfl)) W6)))
end Go.Proofs.YtkegepoihkhihaaGreat

namespace Go.M
open Go.AV
theorem AZ7 {l : List TCell} (h : goodCells l = true) {i : Nat} {c : TCell} {g a u : Int} {j : Nat} (hj : j ≤ 16) : (M.insAll [] (partItems l i c j g a u)).length ≤ 1000 := by
  have h1 := AI3 h (i := i) (c := c) (g := g) (a := a) (u := u) hj
  have h2 := AG1 (l := partItems l i c j g a u) (o := [])
  rw [X3] at h2; omega
theorem AR7 (s : TState) (g a u : Int) : ((((!goodState s || !within g 0 3) || !within a 0 u) || decide (u > 100000)) = true → itemsR s g a u = ([], false)) ∧ ((((!goodState s || !within g 0 3) || !within a 0 u) || decide (u > 100000)) = false → goodState s = true ∧ itemsR s g a u = (feedIn s.Cells g a u, true)) := by
  unfold itemsR isGroup isTrue within
  cases hg : goodState s with
  | false => simp
  | true =>
    constructor
    · intro h
      rw [if_neg]
      intro hc
      simp only [Bool.and_eq_true, decide_eq_true_eq, Bool.true_and] at hc
      simp [hc.1.1.1, hc.1.1.2, hc.1.2, hc.2] at h
      omega
    · intro h
      refine ⟨rfl, ?_⟩
      rw [if_pos]
      simp only [Bool.or_eq_false_iff, Bool.not_eq_false', decide_eq_false_iff_not, Bool.and_eq_true, decide_eq_true_eq] at h
      simp only [Bool.and_eq_true, decide_eq_true_eq, Bool.true_and]
      omega
end Go.M
namespace Go.Proofs.YtkegepoihkhihaaGreat
open Go Go.AV Go.M
attribute [local irreducible] OpW OpA OpS AWP FSpec ESpec GSpec OpE RetOk RetOkG RvDen Le Ev GuardIs SrcIs SrcE Int.tmod IntKind.wrap bandI
theorem Ap0 (l : List TCell) (g a u : Int) (hg : goodCells l = true) : GSpec Tryz.prog 46 [AV.list 2 (l.map TCell.cs), AV.int g, AV.int a, AV.int u] [] (fun _ : Value => True) (fun v => [.arr v 63 5 ((feedIn l g a u).map TFeedItem.cs)]) (fun v => AV.is v) := by
 obtain ⟨f1, f2, f3⟩ := Q0 hg
 refine K0 Tryz.func46 rfl Tryz.ntmps46 rfl ?_
 refine A3 (A2 ?_)
 refine A1 rfl (A9 rfl S2) ?_
 refine A4 (A3 (A2 ?_))
 refine W9 rfl rfl rfl rfl F9 I2 ?_
 intro v13
 refine B3 rfl ?_
 refine A4 (A3 (A3 (A2 ?_)))
 refine A1 rfl (A9 rfl B4) ?_
 refine A4 (C4 ?_)
 refine AWP.le (Q3 [0] rfl) ?_
 refine J8 [(0, _), (1, _), (2, _), (3, _), (8, _)] _ (fun (i : Nat) (v : Value) => i ≤ l.length) (fun (i : Nat) (v : Value) => [.arr v 63 5 ((M.insAll [] (rawItems (l.take i) g a u)).map TFeedItem.cs)]) (fun (i : Nat) (v : Value) => [(9, AV.is v), (10, AV.int i)]) (fun (i : Nat) (v : Value) => l.length - i) (0) (v13) ?_ (K7 (by rfl) ⟨rfl, rfl, rfl, rfl, rfl, rfl, rfl, trivial⟩) ?_
 ·exact Nat.zero_le _
 intro i v hinv
 refine A3 (A3 (A2 ?_))
 refine A5 rfl ?_
 refine A5 rfl ?_
 refine A1 rfl (E9 rfl F0 (A0 rfl)) ?_
 refine A1 rfl (G0 rfl (A0 rfl) (A0 rfl)) ?_
 refine A4 ?_
 refine C0 (A0 rfl) ?_ ?_
 ·intro h17
  have k17 := of_decide_eq_true h17; try simp only [A6] at k17
  have hlt : i < l.length := by (simpa using h17)
  obtain ⟨c, hx⟩ := get_some hlt
  have hcf := f3 c (H4 hx)
  refine C1 (A3 (C4 (A3 (A2 ?_))))
  refine A1 rfl (A9 rfl B4) ?_
  refine A4 (C4 ?_)
  refine AWP.le (Q3 [0] rfl) ?_
  refine J8 [(0, _), (1, _), (2, _), (3, _), (8, _), (10, _), (14, _), (15, _), (16, _), (17, _)] _ (fun (j : Nat) (w : Value) => j ≤ c.Vers.length) (fun (j : Nat) (w : Value) => [.arr w 63 5 ((M.insAll [] (partItems l i c j g a u)).map TFeedItem.cs)]) (fun (j : Nat) (w : Value) => [(9, AV.is w), (11, AV.int j)]) (fun (j : Nat) (w : Value) => c.Vers.length - j) (0) (v) ?_ (K7 (by (rw [AD4]; rfl)) ⟨rfl, rfl, rfl, rfl, rfl, rfl, rfl, rfl, rfl, rfl, rfl, rfl, trivial⟩) ?_
  ·exact Nat.zero_le _
  intro j w hinv
  refine A3 (A3 (A2 ?_))
  refine A5 rfl ?_
  refine A5 rfl ?_
  refine A5 rfl ?_
  refine A1 rfl (I9 rfl F0 E8 (A0 rfl) (A0 rfl) hx (by first | omega | (simp only [D4, B0, szR] at *; omega))) ?_
  refine A1 rfl (Q2 rfl F2 rfl K2 (A0 rfl) rfl) ?_
  refine A1 rfl (J5 rfl (A0 rfl) M0 rfl) ?_
  refine A1 rfl (E9 rfl G5 (A0 rfl)) ?_
  refine A1 rfl (G0 rfl (A0 rfl) (A0 rfl)) ?_
  refine A4 ?_
  refine C0 (A0 rfl) ?_ ?_
  ·intro h27
   have k27 := of_decide_eq_true h27; try simp only [A6] at k27
   have hlt1 : j < c.Vers.length := by (simpa using h27)
   obtain ⟨y, hy⟩ := get_some hlt1
   have hpl := AZ7 hg (i := i) (c := c) (g := g) (a := a) (u := u) (j := j) (by omega)
   refine C1 (A3 (C4 (A3 (A2 ?_))))
   refine A5 rfl ?_
   refine A5 rfl ?_
   refine A1 rfl (I9 rfl F0 E8 (A0 rfl) (A0 rfl) hx (by first | omega | (simp only [D4, B0, szR] at *; omega))) ?_
   refine A1 rfl (Q2 rfl F2 rfl K2 (A0 rfl) rfl) ?_
   refine A1 rfl (J5 rfl (A0 rfl) M0 rfl) ?_
   refine A5 rfl ?_
   refine A1 rfl (I9 rfl G5 I4 (A0 rfl) (A0 rfl) hy (by first | omega | (simp only [D4, B0, szR] at *; omega))) ?_
   refine A1 rfl (H8 rfl (A0 rfl) U2 I4) ?_
   refine I1 rfl rfl rfl rfl Tryz.zeroValue127 rfl ?_
   intro b12
   refine H9 0 rfl rfl rfl (A0 rfl) (A0 rfl) (J4 _) rfl I4 rfl ?_
   refine A4 (A3 (A2 ?_))
   refine A1 rfl (B2 0 rfl F7 rfl B9 (A0 rfl) rfl) ?_
   refine A1 rfl (B1 0 rfl (A0 rfl) rfl D2 rfl) ?_
   refine A5 rfl ?_
   refine A1 rfl (R4 rfl (A0 rfl) (A0 rfl)) ?_
   refine A5 rfl ?_
   refine D1 rfl (fun hc => B2 0 rfl F7 rfl B9 (A0 rfl) rfl) ?_
   refine D1 rfl (fun hc => B1 0 rfl (A7 rfl hc) rfl D2 rfl) ?_
   refine D1 rfl (fun hc => C2 rfl (A0 rfl)) ?_
   refine D1 rfl (fun hc => R7 rfl (A7 rfl hc) (A7 rfl hc)) ?_
   refine A1 rfl (H5 rfl (A0 rfl) (F3 rfl)) ?_
   refine A4 ?_
   refine C0 (A0 rfl) ?_ ?_
   ·intro h47
    refine AWP.le (Q3 [0] rfl) ?_
    refine AH5 _ 19 (.pure 0 (.pure 1 (.pure 2 (.pure 3 (.pure 4 (.pure 5 (.pure 6 (.pure 7 (.pure 8 (.pure 9 (.pure 10 (.pure 11 (.pure 12 (.pure 13 (.e1 14 (.pure 15 (.pure 16 (.pure 17 (.pure 18 .nil))))))))))))))))))) (by kernel_rfl) (by kernel_rfl) rfl (Am1 1) ?_
    refine Q6 rfl rfl rfl (fun ext => C2 rfl (A0 rfl)) ?_
    refine Q6 rfl rfl rfl (fun ext => B2 0 rfl F7 rfl B9 (A0 rfl) rfl) ?_
    refine Q6 rfl rfl rfl (fun ext => B1 0 rfl (A0 rfl) rfl D2 rfl) ?_
    refine Q6 rfl rfl rfl (fun ext => C2 rfl (A0 rfl)) ?_
    refine Q6 rfl rfl rfl (fun ext => C2 rfl (A0 rfl)) ?_
    refine Q6 rfl rfl rfl (fun ext => C2 rfl (A0 rfl)) ?_
    refine Q6 rfl rfl rfl (fun ext => I9 rfl F0 E8 (A0 rfl) (A0 rfl) hx (by first | omega | (simp only [D4, B0, szR] at *; omega))) ?_
    refine Q6 rfl rfl rfl (fun ext => Q2 rfl F2 rfl C6 (A0 rfl) rfl) ?_
    refine Q6 rfl rfl rfl (fun ext => J5 rfl (A0 rfl) E5 rfl) ?_
    refine Q6 rfl rfl rfl (fun ext => B2 1 rfl F7 rfl C6 (A0 rfl) rfl) ?_
    refine Q6 rfl rfl rfl (fun ext => B1 0 rfl (A0 rfl) rfl E5 rfl) ?_
    refine Q6 rfl rfl rfl (fun ext => B2 2 rfl F7 rfl F8 (A0 rfl) rfl) ?_
    refine Q6 rfl rfl rfl (fun ext => B1 0 rfl (A0 rfl) rfl I5 rfl) ?_
    refine Q6 rfl rfl rfl (fun ext => u4 (places := #[(0, 1), (1, 1), (2, 1), (3, 1), (4, 1)]) rfl G4 Tryz.zeroValue63 (fun w => by kernel_rfl) rfl (N3 (A0 rfl) (P9 _ _) (N3 (A0 rfl) (P9 _ _) (N3 (A0 rfl) (Q7 _) (N3 (A0 rfl) (Q7 _) (N3 (A0 rfl) (c4 _) W7))))) rfl) ?_
    refine bt_e1 ?_
    refine eff_s rfl rfl rfl (opE_call [1] rfl Tryz.call69 rfl (Ak2 w (M.insAll [] (partItems l i c j g a u)) (itemOf g c.Key y) (by omega)) (A8 (A0 rfl) (A8 (A0 rfl) C7)) rfl) (fun a _ => (by first | exact Z2 rfl | exact Z2 (List.append_assoc _ _ _) | exact o7)) ?_
    intro x63 ok63
    refine Q6 rfl rfl rfl (fun ext => C2 rfl (A0 rfl)) ?_
    refine Q6 rfl rfl rfl (fun ext => M2 rfl (A0 rfl) rfl) ?_
    refine Q6 rfl rfl rfl (fun ext => M2 rfl (A0 rfl) rfl) ?_
    refine Q6 rfl rfl rfl (fun ext => A9 rfl (A0 rfl)) ?_
    refine bt_nil ?_
    refine A4 (A2 ?_)
    refine A5 rfl ?_
    refine A1 rfl (F1 rfl (A0 rfl) B4 (by first | omega | (simp only [D4, B0, szR] at *; omega))) ?_
    refine B3 rfl ?_
    refine A4 ?_
    refine J2 j w (j + 1) (x63) ?_ ?_ (Le.trans (Q3 [0, 0] rfl) (S5 1 (by first | (rw [z7 hy h47, AL5]; rfl) | (rw [AE5 hy h47]; rfl)) ⟨rfl, rfl, rfl, rfl, rfl, rfl, rfl, rfl, rfl, rfl, rfl, rfl, trivial⟩))
    ·exact (by omega)
    omega
   intro h47
   refine C1 (A2 ?_)
   refine A5 rfl ?_
   refine A1 rfl (F1 rfl (A0 rfl) B4 (by first | omega | (simp only [D4, B0, szR] at *; omega))) ?_
   refine B3 rfl ?_
   refine A4 ?_
   refine J2 j w (j + 1) (w) ?_ ?_ (Le.trans (Q3 [0, 0] rfl) (S5 1 (by first | (rw [z7 hy h47, AL5]; rfl) | (rw [AE5 hy h47]; rfl)) ⟨rfl, rfl, rfl, rfl, rfl, rfl, rfl, rfl, rfl, rfl, rfl, rfl, trivial⟩))
   ·exact (by omega)
   omega
  intro h27
  have k27 := of_decide_eq_false h27; try simp only [A6] at k27
  have hge1 : c.Vers.length ≤ j := by (simpa using h27)
  refine F5 ?_
  refine A2 ?_
  refine A5 rfl ?_
  refine A1 rfl (F1 rfl (A0 rfl) B4 (by first | omega | (simp only [D4, B0, szR] at *; omega))) ?_
  refine B3 rfl ?_
  refine A4 ?_
  refine J2 i v (i + 1) (w) ?_ ?_ (Le.trans (Q3 [0] rfl) (K7 (by (rw [AR6 hx hge1]; rfl)) ⟨rfl, rfl, rfl, rfl, rfl, rfl, rfl, trivial⟩))
  ·exact (by omega)
  omega
 intro h17
 have k17 := of_decide_eq_false h17; try simp only [A6] at k17
 have hge : l.length ≤ i := by (simpa using h17)
 rw [List.take_of_length_le hge]
 refine F5 ?_
 refine A3 (A2 ?_)
 refine A5 rfl ?_
 refine B3 rfl ?_
 refine A4 ?_
 refine B8 ?_
 exact V4 [0] v (trivial) rfl (by rfl) (U3 rfl (B7 rfl (by rfl)))
theorem Ak3 (l : List TCell) (g a u : Int) (hg : goodCells l = true) : FSpec Tryz.prog 46 [AV.list 2 (l.map TCell.cs), AV.int g, AV.int a, AV.int u] (AV.list 5 ((feedIn l g a u).map TFeedItem.cs)) :=
  AM1 (Ap0 l g a u hg) fun v _ => i6 (List.mem_singleton.2 rfl) W8
theorem AT7 (s : TState) (g a u : Int) (hs : s.size ≤ 1048576) : FSpec Tryz.prog 15 [AV.agg s.cs, AV.int g, AV.int a, AV.int u] (AV.tup [AV.list 5 ((itemsR s g a u).1.map TFeedItem.cs), AV.bool (itemsR s g a u).2]) := by
 refine D3 Tryz.func15 rfl Tryz.ntmps15 rfl ?_
 refine A3 (A2 ?_)
 refine I8 rfl rfl rfl rfl (A0 rfl) ?_
 intro b4
 refine A1 rfl (A9 rfl (c3 (sz := 5))) ?_
 refine A1 rfl (A9 rfl E3) ?_
 refine A4 (A3 (A3 (A2 ?_)))
 refine A1 rfl (K8 0 rfl (A0 rfl) rfl O0 L3 rfl) ?_
 refine A1 rfl (E1 rfl Tryz.call45 rfl (AI1 s hs) (A8 (A0 rfl) C7)) ?_
 refine A1 rfl (J3 rfl (A0 rfl)) ?_
 refine A5 rfl ?_
 refine H3 rfl (fun hc => C2 rfl (A0 rfl)) ?_
 refine H3 rfl (fun hc => E1 rfl Tryz.call39 rfl (R9 _ _ _) (A8 (A7 rfl hc) (A8 B4 (A8 B4 C7)))) ?_
 refine H3 rfl (fun hc => J3 rfl (A7 rfl hc)) ?_
 refine A1 rfl (O1 rfl (A0 rfl) (F3 rfl)) ?_
 refine A5 rfl ?_
 refine H3 rfl (fun hc => C2 rfl (A0 rfl)) ?_
 refine H3 rfl (fun hc => C2 rfl (A0 rfl)) ?_
 refine H3 rfl (fun hc => E1 rfl Tryz.call39 rfl (R9 _ _ _) (A8 (A7 rfl hc) (A8 B4 (A8 (A7 rfl hc) C7)))) ?_
 refine H3 rfl (fun hc => J3 rfl (A7 rfl hc)) ?_
 refine A1 rfl (O1 rfl (A0 rfl) (F3 rfl)) ?_
 refine A5 rfl ?_
 refine H3 rfl (fun hc => C2 rfl (A0 rfl)) ?_
 refine H3 rfl (fun hc => R4 rfl (A7 rfl hc) B4) ?_
 refine A1 rfl (O1 rfl (A0 rfl) (F3 rfl)) ?_
 refine A4 ?_
 refine C0 (A0 rfl) ?_ ?_
 ·intro h27
  have he := (AR7 s g a u).1 h27
  rw [he]
  refine A3 (A2 ?_)
  refine A1 rfl (X8 rfl F9 I2 Tryz.zeroValue63 rfl rfl rfl rfl W7 rfl rfl) ?_
  refine B3 rfl ?_
  refine A1 rfl (A9 rfl E3) ?_
  refine A4 ?_
  refine B8 ?_
  exact s6 rfl (by decide) (N8 (B7 rfl (by rfl)) (N8 (B7 rfl (by rfl)) W6))
 intro h27
 obtain ⟨hgs, he⟩ := (AR7 s g a u).2 h27
 rw [he]
 refine C1 (A3 (A2 ?_))
 refine A1 rfl (B2 1 rfl E2 rfl K5 (A0 rfl) rfl) ?_
 refine A1 rfl (B1 0 rfl (A0 rfl) rfl N1 rfl) ?_
 refine A5 rfl ?_
 refine A5 rfl ?_
 refine A5 rfl ?_
 refine A1 rfl (E1 rfl Tryz.call46 rfl (Ak3 s.Cells g a u (n3.1 hgs).cells) (A8 (A0 rfl) (A8 (A0 rfl) (A8 (A0 rfl) (A8 (A0 rfl) C7))))) ?_
 refine B3 rfl ?_
 refine A1 rfl (A9 rfl E3) ?_
 refine A4 ?_
 refine B8 ?_
 exact s6 rfl (by decide) (N8 (B7 rfl (by rfl)) (N8 (B7 rfl (by rfl)) W6))
end Go.Proofs.YtkegepoihkhihaaGreat

namespace Go.M
open Go.AV
def TPlaces.markE (p : TPlaces) (k : Int) : TPlaces := ⟨k, (p.mark (k + 1)).Cuts, (p.mark (k + 1)).Groups⟩
def TPlaces.markEN (p : TPlaces) (k : Int) : Int := p.markN (k + 1)
theorem TPlaces.markEN_le (p : TPlaces) (k : Int) : k ≤ p.markEN k := by unfold TPlaces.markEN TPlaces.markN; omega
theorem TPlaces.markEN_le1 (p : TPlaces) (k : Int) : k + 1 ≤ p.markEN k := by unfold TPlaces.markEN TPlaces.markN; omega
def TAtlas.mark (a : TAtlas) (k : Int) : TAtlas := ⟨marksN TPlaces.markE TPlaces.markEN a.Maps k, marks (fun k : Int => k) 1 a.Knows.length (countN TPlaces.markEN a.Maps k)⟩
def TAtlas.markN (a : TAtlas) (k : Int) : Int := countN TPlaces.markEN a.Maps k + 1 * a.Knows.length
def TAtlas.ocs (a : TAtlas) (x : Value × Value × List (Value × Value)) : List AV := [AV.is x.1, AV.is x.2.1]
end Go.M

namespace Go.AV
section
variable {T X : Type} {ow : T → X → List Own} {ocs : T → X → List AV} {cs : T → List AV}
end
end Go.AV
namespace Go.M
open Go.AV
def THeld.markE (p : THeld) (k : Int) : THeld := ⟨k, k + 1, k + 1 + 1, marks markText 1 p.Reads.length (k + 1 + 1 + 1), marks mkWrite 3 p.Writes.length (k + 1 + 1 + 1 + 1 * p.Reads.length)⟩
def THeld.markEN (p : THeld) (k : Int) : Int := k + 1 + 1 + 1 + 1 * p.Reads.length + 3 * p.Writes.length
theorem THeld.markEN_le (p : THeld) (k : Int) : k ≤ p.markEN k := by unfold THeld.markEN; omega
theorem THeld.markEN_le1 (p : THeld) (k : Int) : k + 1 ≤ p.markEN k := by unfold THeld.markEN; omega
theorem AL6 : ∀ (l : List THeld) (k : Int), countN THeld.markEN l k ≤ k + 3 * sizeL THeld.size l
  | [], k => by simp [countN, sizeL]
  | p :: l, k => by
    unfold countN
    have h1 := AL6 l (p.markEN k)
    have h2 : p.markEN k ≤ k + 3 * p.size + 3 := by
      unfold THeld.markEN THeld.size
      have h3 : p.Reads.length ≤ sizeL (fun x : Str => x.length) p.Reads := L1
      have h4 : p.Writes.length ≤ sizeL TWrite.size p.Writes := L1
      omega
    unfold sizeL at *
    simp only [J9, List.map_cons, List.sum_cons] at *
    omega
def TState.mark (s : TState) (k : Int) : TState := ⟨s.Floor, marksN TCell.markE TCell.markEN s.Cells k, marksN THeld.markE THeld.markEN s.Held (countN TCell.markEN s.Cells k), marks mkTold 3 s.Told.length (countN THeld.markEN s.Held (countN TCell.markEN s.Cells k))⟩
def TState.markN (s : TState) (k : Int) : Int := countN THeld.markEN s.Held (countN TCell.markEN s.Cells k) + 3 * s.Told.length
def TState.markE (s : TState) (k : Int) : TState := ⟨k, (s.mark (k + 1)).Cells, (s.mark (k + 1)).Held, (s.mark (k + 1)).Told⟩
def TState.markEN (s : TState) (k : Int) : Int := s.markN (k + 1)
theorem TState.markN_le (s : TState) (k : Int) : k ≤ s.markN k := by
  unfold TState.markN
  have h1 := g6 TCell.markEN_le s.Cells k
  have h2 := g6 THeld.markEN_le s.Held (countN TCell.markEN s.Cells k)
  omega
theorem TState.markEN_le (p : TState) (k : Int) : k ≤ p.markEN k := by have := p.markN_le (k + 1); unfold TState.markEN; omega
theorem TState.markEN_le1 (p : TState) (k : Int) : k + 1 ≤ p.markEN k := by have := p.markN_le (k + 1); unfold TState.markEN; omega
theorem TState.markN_size (s : TState) (k : Int) : s.markN k ≤ k + 3 * s.size := by
  unfold TState.markN TState.size
  have h1 := AF3 s.Cells k
  have h2 := AL6 s.Held (countN TCell.markEN s.Cells k)
  omega
end Go.M

set_option maxHeartbeats 1000000
namespace Go.Proofs.YtkegepoihkhihaaGreat
open Go Go.AV Go.M
attribute [local irreducible] OpW OpA OpS AWP FSpec ESpec GSpec OpE RetOk RetOkG RvDen Le Ev GuardIs SrcIs
end Go.Proofs.YtkegepoihkhihaaGreat

namespace Go.Proofs.YtkegepoihkhihaaGreat
open Go Go.AV Go.M
attribute [local irreducible] OpW OpA OpS AWP FSpec ESpec GSpec OpE RetOk RetOkG RvDen Le Ev GuardIs SrcIs
theorem Ak4 (a : TCell) (hs : a.size ≤ 1048576) : GSpec Tryz.prog 88 [AV.agg a.cs] [] (fun _ : Value => True) (fun x => TCell.ow a x) (fun x => AV.agg (TCell.ocs a x)) := by
 unfold TCell.size at hs
 refine K0 Tryz.func88 rfl Tryz.ntmps88 rfl ?_
 refine A3 (A2 ?_)
 refine I8 rfl rfl rfl rfl (A0 rfl) ?_
 intro b1
 refine I1 rfl rfl rfl rfl Tryz.zeroValue125 rfl ?_
 intro b2
 refine A4 (A3 (A2 ?_))
 refine I1 rfl rfl rfl rfl Tryz.zeroValue125 rfl ?_
 intro b3
 refine A4 (A3 (A2 ?_))
 refine A1 rfl (B2 0 rfl R5 rfl C6 (A0 rfl) rfl) ?_
 refine A1 rfl (B1 2 rfl (A0 rfl) rfl E5 rfl) ?_
 refine A1 rfl (B2 0 rfl F2 rfl C6 (A0 rfl) rfl) ?_
 refine J6 0 rfl rfl rfl (A0 rfl) (A0 rfl) (Q7 _) rfl C6 rfl ?_
 refine A4 (A3 (A2 ?_))
 refine A1 rfl (B2 1 rfl R5 rfl Tryz.sizeOf132 (A0 rfl) rfl) ?_
 refine A1 rfl (B1 2 rfl (A0 rfl) rfl Tryz.isAgg132 rfl) ?_
 refine Q8 [] rfl rfl rfl rfl Tryz.call133 rfl (Aj6 _ (by first | assumption | omega)) (A8 (A0 rfl) C7) rfl ?_
 intro x9 ok9
 refine A1 rfl (B2 1 rfl F2 rfl K2 (A0 rfl) rfl) ?_
 refine o0 0 rfl fun one_x9 => ?_
 refine J6 1 rfl rfl rfl (A0 rfl) (A0 rfl) (AD8 one_x9) rfl K2 rfl ?_
 refine A4 (A3 (A2 ?_))
 refine A1 rfl (K8 1 rfl (A0 rfl) rfl L9 E8 rfl) ?_
 refine H9 2 rfl rfl rfl (A0 rfl) (A0 rfl) (J4 _) rfl E8 rfl ?_
 refine A4 ?_
 refine B8 ?_
 exact V4 [0] x9 (trivial) rfl (by rfl) (U3 rfl (V2 (ys := _) 2 rfl rfl L9 E8 rfl))
theorem Ad7 (l : List TCell) (hs : sizeL TCell.size l ≤ 1048576) : GSpec Tryz.prog 47 [AV.list 2 (l.map TCell.cs)] [] (fun x : Value × List Value => x.2.length = l.length) (fun x => .arr x.1 125 2 (nrows TCell.ocs l x.2) :: nin TCell.ow l x.2) (fun x => AV.is x.1) := by
 have hsl : l.length ≤ 1048576 := Nat.le_trans L1 hs
 refine K0 Tryz.func47 rfl Tryz.ntmps47 rfl ?_
 refine A3 (A2 ?_)
 refine A1 rfl (A9 rfl S2) ?_
 refine A4 (A3 (A2 ?_))
 refine A5 rfl ?_
 refine A1 rfl (E9 rfl P2 (A0 rfl)) ?_
 refine V7 (by' := 40) rfl rfl rfl rfl F0 Tryz.type125 rfl rfl rfl rfl rfl rfl (A0 rfl) (A0 rfl) (by simp only [A6]; omega) (by simp only [A6]; omega) ?_
 intro v7
 refine B3 rfl ?_
 refine A4 (A3 (A3 (A2 ?_)))
 refine A1 rfl (A9 rfl B4) ?_
 refine A4 (C4 ?_)
 refine J8 [(0, _), (2, _), (3, _)] [] (fun (i : Nat) (xs : List Value) => i ≤ l.length ∧ xs.length = i) (fun (i : Nat) (xs : List Value) => [.arr v7 125 2 (nrows TCell.ocs (l.take i) xs ++ List.replicate (l.length - i) [AV.str [], AV.nils])] ++ (nin TCell.ow (l.take i) xs)) (fun (i : Nat) (xs : List Value) => [(4, AV.int i)]) (fun (i : Nat) (xs : List Value) => l.length - i) (0) ([]) ?_ (K7 (by simp only [A6]; rfl) ⟨rfl, rfl, rfl, rfl, trivial⟩) ?_
 ·exact ⟨Nat.zero_le _, rfl⟩
 intro i xs hinv
 refine AE2 (List.append_nil _) ?_
 refine A3 (A3 (A2 ?_))
 refine A5 rfl ?_
 refine A5 rfl ?_
 refine A1 rfl (E9 rfl P2 (A0 rfl)) ?_
 refine A1 rfl (G0 rfl (A0 rfl) (A0 rfl)) ?_
 refine A4 ?_
 refine C0 (A0 rfl) ?_ ?_
 ·intro h11
  have k11 := of_decide_eq_true h11; try simp only [A6] at k11
  have hlt : i < l.length := by omega
  obtain ⟨x, hx⟩ := get_some hlt
  have hsx : TCell.size x ≤ 1048576 := Nat.le_trans (Q5 hx) hs
  refine C1 (A3 (C4 (A2 ?_)))
  refine A5 rfl ?_
  refine A5 rfl ?_
  refine A5 rfl ?_
  refine A5 rfl ?_
  refine A1 rfl (O7 rfl P2 W3 (A0 rfl) (A0 rfl) (by omega) (by simp only [Int.toNat_natCast, List.getElem?_map, hx, Option.map_some]; try rfl)) ?_
  refine A1 rfl (H8 rfl (A0 rfl) Tryz.isAgg134 W3) ?_
  refine Q8 [] rfl rfl rfl rfl Tryz.call88 rfl (Ak4 _ (by assumption)) (A8 (A0 rfl) C7) rfl ?_
  intro x20 ok20
  refine A1 rfl (L0 1 rfl F0 E8 (A0 rfl) rfl (A0 rfl) (by omega) (by rw [r7 hinv.1 hinv.2]; omega)) ?_
  refine R8 1 rfl rfl rfl (A0 rfl) (A0 rfl) (J4 _) rfl E8 rfl (by rw [r7 hinv.1 hinv.2]; omega) ?_
  refine A4 ?_
  refine AWP.le (Q3 [1, 0] rfl) ?_
  refine AWP.le (o1 1 (t := nin TCell.ow (l.take (i + 1)) (xs ++ [x20])) (AW0 (ow := TCell.ow) (x := x20) hx hinv.2)) ?_
  refine A2 ?_
  refine A5 rfl ?_
  refine A1 rfl (F1 rfl (A0 rfl) B4 (by first | omega | (simp only [D4, B0, szR] at *; omega))) ?_
  refine B3 rfl ?_
  refine A4 ?_
  refine J2 i xs (i + 1) (xs ++ [x20]) ?_ ?_ (K7 (Eq.trans (by exact congrArg (fun z => Own.arr _ _ _ z :: _) (AJ4 hx hinv.2)) (List.append_nil _).symm) ⟨rfl, rfl, rfl, rfl, trivial⟩)
  ·exact ⟨by omega, by rw [I6, hinv.2]; rfl⟩
  omega
 intro h11
 have k11 := of_decide_eq_false h11; try simp only [A6] at k11
 have hge : i = l.length := by omega
 have hxs := hinv.2.trans hge
 rw [show l.take i = l from List.take_of_length_le (by omega), show l.length - i = 0 by omega, List.replicate_zero, List.append_nil]
 refine F5 ?_
 refine A3 (A2 ?_)
 refine A5 rfl ?_
 refine B3 rfl ?_
 refine A4 ?_
 refine B8 ?_
 exact AE3 [0] 0 (nin TCell.ow l xs) [] (v7, xs) (hxs) rfl (show List.Perm (nin TCell.ow l xs) ((nin TCell.ow l xs) ++ []) from e8) (by rfl) (U3 rfl (B7 rfl (by first | rfl | (refine congrArg AV.bool ?_; simp_all; done))))
theorem AO3 (v : Value) (l : List TCell) (xs : List Value) (k : Int) (hl : xs.length = l.length) (h : 0 ≤ k ∧ countN TCell.markEN l k ≤ 4611686018427387904) : GSpec Tryz.prog 58 [AV.is v, AV.int k] (.arr v 125 2 (nrows TCell.ocs l xs) :: nin TCell.ow l xs) (fun _ : Unit => True) (fun _ => .arr v 125 2 (nrows TCell.ocs (marksN TCell.markE TCell.markEN l k) xs) :: nin TCell.ow (marksN TCell.markE TCell.markEN l k) xs) (fun _ => AV.int (countN TCell.markEN l k)) := by
 have hll := y4 TCell.markEN_le1 l k
 refine K0 Tryz.func58 rfl Tryz.ntmps58 rfl ?_
 refine A3 (A2 ?_)
 refine A1 rfl (A9 rfl B4) ?_
 refine A4 (A3 (A3 (A2 ?_)))
 refine A1 rfl (A9 rfl B4) ?_
 refine A4 (C4 ?_)
 refine J8 [(0, _), (4, _)] [] (fun (i : Nat) (c : Int) => i ≤ l.length ∧ c = countN TCell.markEN (l.take i) k) (fun (i : Nat) (c : Int) => [.arr v 125 2 (nrows TCell.ocs (midN TCell.markE TCell.markEN l k i) xs)] ++ (nin TCell.ow (midN TCell.markE TCell.markEN l k i) xs)) (fun (i : Nat) (c : Int) => [(1, AV.int c), (5, AV.int i)]) (fun (i : Nat) (c : Int) => l.length - i) (0) (k) ?_ (K7 (by rw [AP6, List.append_nil]; rfl) ⟨rfl, rfl, rfl, rfl, trivial⟩) ?_
 ·exact ⟨Nat.zero_le _, rfl⟩
 intro i c hinv
 refine AE2 (List.append_nil _) ?_
 refine A3 (A3 (A2 ?_))
 refine A5 rfl ?_
 refine A5 rfl ?_
 refine A1 rfl (V3 0 rfl F0 (A0 rfl) rfl) ?_
 refine A1 rfl (G0 rfl (A0 rfl) (A0 rfl)) ?_
 refine A4 ?_
 refine C0 (A0 rfl) ?_ ?_
 ·intro h9
  have k9 := of_decide_eq_true h9; try simp only [A6] at k9
  simp only [a6 (hl.trans (O8 hinv.1).symm), O8 hinv.1] at k9
  have hlt : i < l.length := by omega
  obtain ⟨p0, hq⟩ := get_some hlt
  have hp := AW2 (mk := TCell.markE) (mn := TCell.markEN) (k := k) hq
  obtain ⟨x, hx⟩ := get_some (show i < xs.length by omega)
  have hstep := AP7 (mk := TCell.markE) (mn := TCell.markEN) (k := k) hq
  rw [← hinv.2] at hstep
  have hct := d6 TCell.markEN_le l (i + 1) k
  have hc0 := d6 TCell.markEN_le l i k
  rw [d5 hq, ← hinv.2] at hct
  rw [← hinv.2] at hc0
  have hce : TCell.markEN p0 c = c + 1 + 3 * p0.Vers.length := rfl
  rw [l8 hp hx]
  refine C1 (A3 (C4 (A3 ?_)))
  refine AWP.le (o1 1 (t := (TCell.ow p0 x) ++ (nin TCell.ow ((midN TCell.markE TCell.markEN l k i).eraseIdx i) (xs.eraseIdx i))) (w4 (ow := TCell.ow) hp hx)) ?_
  refine A2 ?_
  refine A5 rfl ?_
  refine A5 rfl ?_
  refine A5 rfl ?_
  refine A1 rfl (E1 rfl Tryz.call61 rfl (S1 _ (by omega)) (A8 (A0 rfl) C7)) ?_
  refine A1 rfl (L0 0 rfl F0 E8 (A0 rfl) rfl (A0 rfl) (by omega) (by rw [Y3 hp hx (hl.trans (O8 hinv.1).symm), O8 hinv.1]; omega)) ?_
  refine A1 rfl (S0 0 rfl F2 rfl C6 (A0 rfl) rfl rfl (O9 (Q4 hp hx))) ?_
  refine O2 0 rfl rfl rfl (A0 rfl) (A0 rfl) (Q7 _) rfl C6 (Q4 hp hx) rfl ?_
  refine A4 (A3 (A2 ?_))
  refine A5 rfl ?_
  refine A1 rfl (F1 rfl (A0 rfl) B4 (by first | omega | (simp only [D4, B0, szR] at *; omega))) ?_
  refine B3 rfl ?_
  refine A4 (A2 ?_)
  refine A5 rfl ?_
  refine A5 rfl ?_
  refine A1 rfl (L0 0 rfl F0 E8 (A0 rfl) rfl (A0 rfl) (by omega) (by rw [Y3 hp hx (hl.trans (O8 hinv.1).symm), O8 hinv.1]; omega)) ?_
  refine A1 rfl (S0 0 rfl F2 rfl K2 (A0 rfl) rfl rfl (O9 (Q4 hp hx))) ?_
  refine A1 rfl (AH0 0 rfl (A0 rfl) rfl M0 (O9 (Q4 hp hx)) rfl) ?_
  refine A5 rfl ?_
  refine Q8 [1] rfl rfl rfl rfl Tryz.call98 rfl (AT3 _ _ _ (by first | assumption | first | omega | (refine ⟨by omega, ?_⟩; simp only [G3] at *; omega))) (A8 (A0 rfl) (A8 (A0 rfl) C7)) rfl ?_
  intro x26 ok26
  refine B3 rfl ?_
  refine A4 ?_
  refine AWP.le (Q3 [1, 0] rfl) ?_
  refine AWP.le (o1 1 (t := nin TCell.ow (midN TCell.markE TCell.markEN l k (i + 1)) xs) ((hstep ▸ Af7 (ow := TCell.ow) (p' := TCell.markE p0 c) hp hx))) ?_
  refine A2 ?_
  refine A5 rfl ?_
  refine A1 rfl (F1 rfl (A0 rfl) B4 (by first | omega | (simp only [D4, B0, szR] at *; omega))) ?_
  refine B3 rfl ?_
  refine A4 ?_
  refine J2 i c (i + 1) (TCell.markEN p0 c) ?_ ?_ (K7 (Eq.trans (by exact congrArg (fun z => Own.arr _ _ _ z :: _) ((AJ5 hp hx).trans (congrArg (fun z => nrows TCell.ocs z xs) hstep))) (List.append_nil _).symm) ⟨rfl, rfl, rfl, rfl, trivial⟩)
  ·exact ⟨by omega, by rw [d5 hq, hinv.2]⟩
  omega
 intro h9
 have k9 := of_decide_eq_false h9; try simp only [A6] at k9
 simp only [a6 (hl.trans (O8 hinv.1).symm), O8 hinv.1] at k9
 have hge : l.length ≤ i := by omega
 rw [AW1 hge]
 refine F5 ?_
 refine A3 (A2 ?_)
 refine A5 rfl ?_
 refine B3 rfl ?_
 refine A4 ?_
 refine B8 ?_
 exact AE3 [0] 0 (nin TCell.ow (marksN TCell.markE TCell.markEN l k) xs) [] () (trivial) rfl (show List.Perm (nin TCell.ow (marksN TCell.markE TCell.markEN l k) xs) ((nin TCell.ow (marksN TCell.markE TCell.markEN l k) xs) ++ []) from e8) (by rfl) (U3 rfl (B7 rfl (by exact congrArg AV.int (by rw [hinv.2, List.take_of_length_le hge]))))
end Go.Proofs.YtkegepoihkhihaaGreat

namespace Go.Proofs.YtkegepoihkhihaaGreat
open Go Go.AV Go.M
attribute [local irreducible] OpW OpA OpS AWP FSpec ESpec GSpec OpE RetOk RetOkG RvDen Le Ev GuardIs SrcIs
theorem THeld.lcM {own : List Own} (p : THeld) (x : Value × Value) (h : ∀ o ∈ THeld.ow p x, o ∈ own) : LendC own (THeld.ocs p x) p.cs := T2 f8 (T2 f8 (T2 f8 (T2 (i6 (h _ (H4 (i := 0) rfl)) W8) (T2 (i6 (h _ (H4 (i := 1) rfl)) W8) u5))))
theorem Ak5 (a : THeld) (hs : a.size ≤ 1048576) : GSpec Tryz.prog 89 [AV.agg a.cs] [] (fun _ : Value × Value => True) (fun x => THeld.ow a x) (fun x => AV.agg (THeld.ocs a x)) := by
 unfold THeld.size at hs
 refine K0 Tryz.func89 rfl Tryz.ntmps89 rfl ?_
 refine A3 (A2 ?_)
 refine I8 rfl rfl rfl rfl (A0 rfl) ?_
 intro b1
 refine I1 rfl rfl rfl rfl Tryz.zeroValue141 rfl ?_
 intro b2
 refine A4 (A3 (A2 ?_))
 refine I1 rfl rfl rfl rfl Tryz.zeroValue141 rfl ?_
 intro b3
 refine A4 (A3 (A2 ?_))
 refine A1 rfl (B2 0 rfl L7 rfl B9 (A0 rfl) rfl) ?_
 refine A1 rfl (B1 2 rfl (A0 rfl) rfl D2 rfl) ?_
 refine A1 rfl (B2 0 rfl D8 rfl B9 (A0 rfl) rfl) ?_
 refine J6 0 rfl rfl rfl (A0 rfl) (A0 rfl) (P9 _ _) rfl B9 rfl ?_
 refine A4 (A3 (A2 ?_))
 refine A1 rfl (B2 1 rfl L7 rfl B9 (A0 rfl) rfl) ?_
 refine A1 rfl (B1 2 rfl (A0 rfl) rfl D2 rfl) ?_
 refine A1 rfl (B2 1 rfl D8 rfl B9 (A0 rfl) rfl) ?_
 refine J6 0 rfl rfl rfl (A0 rfl) (A0 rfl) (P9 _ _) rfl B9 rfl ?_
 refine A4 (A3 (A2 ?_))
 refine A1 rfl (B2 2 rfl L7 rfl B9 (A0 rfl) rfl) ?_
 refine A1 rfl (B1 2 rfl (A0 rfl) rfl D2 rfl) ?_
 refine A1 rfl (B2 2 rfl D8 rfl B9 (A0 rfl) rfl) ?_
 refine J6 0 rfl rfl rfl (A0 rfl) (A0 rfl) (P9 _ _) rfl B9 rfl ?_
 refine A4 (A3 (A2 ?_))
 refine A1 rfl (B2 3 rfl L7 rfl K1 (A0 rfl) rfl) ?_
 refine A1 rfl (B1 2 rfl (A0 rfl) rfl L6 rfl) ?_
 refine Q8 [] rfl rfl rfl rfl Tryz.call134 rfl (AT2 _ (by first | assumption | omega)) (A8 (A0 rfl) C7) rfl ?_
 intro x15 ok15
 refine A1 rfl (B2 3 rfl D8 rfl K1 (A0 rfl) rfl) ?_
 refine o0 0 rfl fun one_x15 => ?_
 refine J6 1 rfl rfl rfl (A0 rfl) (A0 rfl) (AD8 one_x15) rfl K1 rfl ?_
 refine A4 (A3 (A2 ?_))
 refine A1 rfl (B2 4 rfl L7 rfl Tryz.sizeOf136 (A0 rfl) rfl) ?_
 refine A1 rfl (B1 3 rfl (A0 rfl) rfl Tryz.isAgg136 rfl) ?_
 refine Q8 [] rfl rfl rfl rfl Tryz.call135 rfl (AZ4 _ (by first | assumption | omega)) (A8 (A0 rfl) C7) rfl ?_
 intro x19 ok19
 refine A1 rfl (B2 4 rfl D8 rfl I7 (A0 rfl) rfl) ?_
 refine o0 0 rfl fun one_x19 => ?_
 refine J6 2 rfl rfl rfl (A0 rfl) (A0 rfl) (AD8 one_x19) rfl I7 rfl ?_
 refine A4 (A3 (A2 ?_))
 refine A1 rfl (K8 2 rfl (A0 rfl) rfl K4 E6 rfl) ?_
 refine H9 3 rfl rfl rfl (A0 rfl) (A0 rfl) (J4 _) rfl E6 rfl ?_
 refine A4 ?_
 refine B8 ?_
 exact V4 [1, 0] (x15, x19) (trivial) rfl (by rfl) (U3 rfl (V2 (ys := _) 3 rfl rfl K4 E6 rfl))
theorem Ad8 (l : List THeld) (hs : sizeL THeld.size l ≤ 1048576) : GSpec Tryz.prog 48 [AV.list 5 (l.map THeld.cs)] [] (fun x : Value × List (Value × Value) => x.2.length = l.length) (fun x => .arr x.1 141 5 (nrows THeld.ocs l x.2) :: nin THeld.ow l x.2) (fun x => AV.is x.1) := by
 have hsl : l.length ≤ 1048576 := Nat.le_trans L1 hs
 refine K0 Tryz.func48 rfl Tryz.ntmps48 rfl ?_
 refine A3 (A2 ?_)
 refine A1 rfl (A9 rfl S2) ?_
 refine A4 (A3 (A2 ?_))
 refine A5 rfl ?_
 refine A1 rfl (E9 rfl P3 (A0 rfl)) ?_
 refine V7 (by' := 72) rfl rfl rfl rfl F6 Tryz.type141 rfl rfl rfl rfl rfl rfl (A0 rfl) (A0 rfl) (by simp only [A6]; omega) (by simp only [A6]; omega) ?_
 intro v7
 refine B3 rfl ?_
 refine A4 (A3 (A3 (A2 ?_)))
 refine A1 rfl (A9 rfl B4) ?_
 refine A4 (C4 ?_)
 refine J8 [(0, _), (2, _), (3, _)] [] (fun (i : Nat) (xs : List (Value × Value)) => i ≤ l.length ∧ xs.length = i) (fun (i : Nat) (xs : List (Value × Value)) => [.arr v7 141 5 (nrows THeld.ocs (l.take i) xs ++ List.replicate (l.length - i) [AV.int 0, AV.int 0, AV.int 0, AV.nils, AV.nils])] ++ (nin THeld.ow (l.take i) xs)) (fun (i : Nat) (xs : List (Value × Value)) => [(4, AV.int i)]) (fun (i : Nat) (xs : List (Value × Value)) => l.length - i) (0) ([]) ?_ (K7 (by simp only [A6]; rfl) ⟨rfl, rfl, rfl, rfl, trivial⟩) ?_
 ·exact ⟨Nat.zero_le _, rfl⟩
 intro i xs hinv
 refine AE2 (List.append_nil _) ?_
 refine A3 (A3 (A2 ?_))
 refine A5 rfl ?_
 refine A5 rfl ?_
 refine A1 rfl (E9 rfl P3 (A0 rfl)) ?_
 refine A1 rfl (G0 rfl (A0 rfl) (A0 rfl)) ?_
 refine A4 ?_
 refine C0 (A0 rfl) ?_ ?_
 ·intro h11
  have k11 := of_decide_eq_true h11; try simp only [A6] at k11
  have hlt : i < l.length := by omega
  obtain ⟨x, hx⟩ := get_some hlt
  have hsx : THeld.size x ≤ 1048576 := Nat.le_trans (Q5 hx) hs
  refine C1 (A3 (C4 (A2 ?_)))
  refine A5 rfl ?_
  refine A5 rfl ?_
  refine A5 rfl ?_
  refine A5 rfl ?_
  refine A1 rfl (O7 rfl P3 W4 (A0 rfl) (A0 rfl) (by omega) (by simp only [Int.toNat_natCast, List.getElem?_map, hx, Option.map_some]; try rfl)) ?_
  refine A1 rfl (H8 rfl (A0 rfl) Tryz.isAgg138 W4) ?_
  refine Q8 [] rfl rfl rfl rfl Tryz.call89 rfl (Ak5 _ (by assumption)) (A8 (A0 rfl) C7) rfl ?_
  intro x20 ok20
  refine A1 rfl (L0 2 rfl F6 E6 (A0 rfl) rfl (A0 rfl) (by omega) (by rw [r7 hinv.1 hinv.2]; omega)) ?_
  refine R8 2 rfl rfl rfl (A0 rfl) (A0 rfl) (J4 _) rfl E6 rfl (by rw [r7 hinv.1 hinv.2]; omega) ?_
  refine A4 ?_
  refine AWP.le (Q3 [2, 0, 0] rfl) ?_
  refine AWP.le (o1 1 (t := nin THeld.ow (l.take (i + 1)) (xs ++ [x20])) (AW0 (ow := THeld.ow) (x := x20) hx hinv.2)) ?_
  refine A2 ?_
  refine A5 rfl ?_
  refine A1 rfl (F1 rfl (A0 rfl) B4 (by first | omega | (simp only [D4, B0, szR] at *; omega))) ?_
  refine B3 rfl ?_
  refine A4 ?_
  refine J2 i xs (i + 1) (xs ++ [x20]) ?_ ?_ (K7 (Eq.trans (by exact congrArg (fun z => Own.arr _ _ _ z :: _) (AJ4 hx hinv.2)) (List.append_nil _).symm) ⟨rfl, rfl, rfl, rfl, trivial⟩)
  ·exact ⟨by omega, by rw [I6, hinv.2]; rfl⟩
  omega
 intro h11
 have k11 := of_decide_eq_false h11; try simp only [A6] at k11
 have hge : i = l.length := by omega
 have hxs := hinv.2.trans hge
 rw [show l.take i = l from List.take_of_length_le (by omega), show l.length - i = 0 by omega, List.replicate_zero, List.append_nil]
 refine F5 ?_
 refine A3 (A2 ?_)
 refine A5 rfl ?_
 refine B3 rfl ?_
 refine A4 ?_
 refine B8 ?_
 exact AE3 [0] 0 (nin THeld.ow l xs) [] (v7, xs) (hxs) rfl (show List.Perm (nin THeld.ow l xs) ((nin THeld.ow l xs) ++ []) from e8) (by rfl) (U3 rfl (B7 rfl (by first | rfl | (refine congrArg AV.bool ?_; simp_all; done))))
theorem AO4 (v : Value) (l : List THeld) (xs : List (Value × Value)) (k : Int) (hl : xs.length = l.length) (h : 0 ≤ k ∧ countN THeld.markEN l k ≤ 4611686018427387904) : GSpec Tryz.prog 59 [AV.is v, AV.int k] (.arr v 141 5 (nrows THeld.ocs l xs) :: nin THeld.ow l xs) (fun _ : Unit => True) (fun _ => .arr v 141 5 (nrows THeld.ocs (marksN THeld.markE THeld.markEN l k) xs) :: nin THeld.ow (marksN THeld.markE THeld.markEN l k) xs) (fun _ => AV.int (countN THeld.markEN l k)) := by
 have hll := y4 THeld.markEN_le1 l k
 refine K0 Tryz.func59 rfl Tryz.ntmps59 rfl ?_
 refine A3 (A2 ?_)
 refine A1 rfl (A9 rfl B4) ?_
 refine A4 (A3 (A3 (A2 ?_)))
 refine A1 rfl (A9 rfl B4) ?_
 refine A4 (C4 ?_)
 refine J8 [(0, _), (4, _)] [] (fun (i : Nat) (c : Int) => i ≤ l.length ∧ c = countN THeld.markEN (l.take i) k) (fun (i : Nat) (c : Int) => [.arr v 141 5 (nrows THeld.ocs (midN THeld.markE THeld.markEN l k i) xs)] ++ (nin THeld.ow (midN THeld.markE THeld.markEN l k i) xs)) (fun (i : Nat) (c : Int) => [(1, AV.int c), (5, AV.int i)]) (fun (i : Nat) (c : Int) => l.length - i) (0) (k) ?_ (K7 (by rw [AP6, List.append_nil]; rfl) ⟨rfl, rfl, rfl, rfl, trivial⟩) ?_
 ·exact ⟨Nat.zero_le _, rfl⟩
 intro i c hinv
 refine AE2 (List.append_nil _) ?_
 refine A3 (A3 (A2 ?_))
 refine A5 rfl ?_
 refine A5 rfl ?_
 refine A1 rfl (V3 0 rfl F6 (A0 rfl) rfl) ?_
 refine A1 rfl (G0 rfl (A0 rfl) (A0 rfl)) ?_
 refine A4 ?_
 refine C0 (A0 rfl) ?_ ?_
 ·intro h9
  have k9 := of_decide_eq_true h9; try simp only [A6] at k9
  simp only [a6 (hl.trans (O8 hinv.1).symm), O8 hinv.1] at k9
  have hlt : i < l.length := by omega
  obtain ⟨p0, hq⟩ := get_some hlt
  have hp := AW2 (mk := THeld.markE) (mn := THeld.markEN) (k := k) hq
  obtain ⟨x, hx⟩ := get_some (show i < xs.length by omega)
  have hstep := AP7 (mk := THeld.markE) (mn := THeld.markEN) (k := k) hq
  rw [← hinv.2] at hstep
  have hct := d6 THeld.markEN_le l (i + 1) k
  have hc0 := d6 THeld.markEN_le l i k
  rw [d5 hq, ← hinv.2] at hct
  rw [← hinv.2] at hc0
  have hce : THeld.markEN p0 c = c + 1 + 1 + 1 + 1 * p0.Reads.length + 3 * p0.Writes.length := rfl
  rw [l8 hp hx]
  refine C1 (A3 (C4 (A3 ?_)))
  refine AWP.le (o1 1 (t := (THeld.ow p0 x) ++ (nin THeld.ow ((midN THeld.markE THeld.markEN l k i).eraseIdx i) (xs.eraseIdx i))) (w4 (ow := THeld.ow) hp hx)) ?_
  refine A2 ?_
  refine A5 rfl ?_
  refine A5 rfl ?_
  refine A5 rfl ?_
  refine A1 rfl (L0 0 rfl F6 E6 (A0 rfl) rfl (A0 rfl) (by omega) (by rw [Y3 hp hx (hl.trans (O8 hinv.1).symm), O8 hinv.1]; omega)) ?_
  refine A1 rfl (S0 0 rfl D8 rfl B9 (A0 rfl) rfl rfl (O9 (Q4 hp hx))) ?_
  refine O2 0 rfl rfl rfl (A0 rfl) (A0 rfl) (P9 _ _) rfl B9 (Q4 hp hx) rfl ?_
  refine A4 (A3 (A2 ?_))
  refine A5 rfl ?_
  refine A1 rfl (F1 rfl (A0 rfl) B4 (by first | omega | (simp only [D4, B0, szR] at *; omega))) ?_
  refine B3 rfl ?_
  refine A4 (A3 (A2 ?_))
  refine A5 rfl ?_
  refine A5 rfl ?_
  refine A5 rfl ?_
  refine A1 rfl (L0 0 rfl F6 E6 (A0 rfl) rfl (A0 rfl) (by omega) (by rw [Y3 hp hx (hl.trans (O8 hinv.1).symm), O8 hinv.1]; omega)) ?_
  refine A1 rfl (S0 0 rfl D8 rfl B9 (A0 rfl) rfl rfl (O9 (Q4 hp hx))) ?_
  refine O2 0 rfl rfl rfl (A0 rfl) (A0 rfl) (P9 _ _) rfl B9 (Q4 hp hx) rfl ?_
  refine A4 (A3 (A2 ?_))
  refine A5 rfl ?_
  refine A1 rfl (F1 rfl (A0 rfl) B4 (by first | omega | (simp only [D4, B0, szR] at *; omega))) ?_
  refine B3 rfl ?_
  refine A4 (A3 (A2 ?_))
  refine A5 rfl ?_
  refine A5 rfl ?_
  refine A5 rfl ?_
  refine A1 rfl (L0 0 rfl F6 E6 (A0 rfl) rfl (A0 rfl) (by omega) (by rw [Y3 hp hx (hl.trans (O8 hinv.1).symm), O8 hinv.1]; omega)) ?_
  refine A1 rfl (S0 0 rfl D8 rfl B9 (A0 rfl) rfl rfl (O9 (Q4 hp hx))) ?_
  refine O2 0 rfl rfl rfl (A0 rfl) (A0 rfl) (P9 _ _) rfl B9 (Q4 hp hx) rfl ?_
  refine A4 (A3 (A2 ?_))
  refine A5 rfl ?_
  refine A1 rfl (F1 rfl (A0 rfl) B4 (by first | omega | (simp only [D4, B0, szR] at *; omega))) ?_
  refine B3 rfl ?_
  refine A4 (A3 (A2 ?_))
  refine A5 rfl ?_
  refine A5 rfl ?_
  refine A1 rfl (L0 0 rfl F6 E6 (A0 rfl) rfl (A0 rfl) (by omega) (by rw [Y3 hp hx (hl.trans (O8 hinv.1).symm), O8 hinv.1]; omega)) ?_
  refine A1 rfl (S0 0 rfl D8 rfl K1 (A0 rfl) rfl rfl (O9 (Q4 hp hx))) ?_
  refine A1 rfl (AH0 0 rfl (A0 rfl) rfl L6 (O9 (Q4 hp hx)) rfl) ?_
  refine A5 rfl ?_
  refine Q8 [1] rfl rfl rfl rfl Tryz.call99 rfl (AI0 _ _ _ (by first | assumption | first | omega | (refine ⟨by omega, ?_⟩; simp only [G3] at *; omega))) (A8 (A0 rfl) (A8 (A0 rfl) C7)) rfl ?_
  intro x39 ok39
  refine B3 rfl ?_
  refine A4 (A2 ?_)
  refine A5 rfl ?_
  refine A5 rfl ?_
  refine A1 rfl (L0 1 rfl F6 E6 (A0 rfl) rfl (A0 rfl) (by omega) (by rw [Y3 hp hx (hl.trans (O8 hinv.1).symm), O8 hinv.1]; omega)) ?_
  refine A1 rfl (S0 1 rfl D8 rfl I7 (A0 rfl) rfl rfl (O9 (Q4 hp hx))) ?_
  refine A1 rfl (AH0 1 rfl (A0 rfl) rfl J7 (O9 (Q4 hp hx)) rfl) ?_
  refine A5 rfl ?_
  refine Q8 [2] rfl rfl rfl rfl Tryz.call100 rfl (AK8 _ _ _ (by first | assumption | first | omega | (refine ⟨by omega, ?_⟩; simp only [G3] at *; omega))) (A8 (A0 rfl) (A8 (A0 rfl) C7)) rfl ?_
  intro x46 ok46
  refine B3 rfl ?_
  refine A4 ?_
  refine AWP.le (Q3 [2, 1, 0] rfl) ?_
  refine AWP.le (o1 1 (t := nin THeld.ow (midN THeld.markE THeld.markEN l k (i + 1)) xs) ((hstep ▸ Af7 (ow := THeld.ow) (p' := THeld.markE p0 c) hp hx))) ?_
  refine A2 ?_
  refine A5 rfl ?_
  refine A1 rfl (F1 rfl (A0 rfl) B4 (by first | omega | (simp only [D4, B0, szR] at *; omega))) ?_
  refine B3 rfl ?_
  refine A4 ?_
  refine J2 i c (i + 1) (THeld.markEN p0 c) ?_ ?_ (K7 (Eq.trans (by exact congrArg (fun z => Own.arr _ _ _ z :: _) ((AJ5 hp hx).trans (congrArg (fun z => nrows THeld.ocs z xs) hstep))) (List.append_nil _).symm) ⟨rfl, rfl, rfl, rfl, trivial⟩)
  ·exact ⟨by omega, by rw [d5 hq, hinv.2]⟩
  omega
 intro h9
 have k9 := of_decide_eq_false h9; try simp only [A6] at k9
 simp only [a6 (hl.trans (O8 hinv.1).symm), O8 hinv.1] at k9
 have hge : l.length ≤ i := by omega
 rw [AW1 hge]
 refine F5 ?_
 refine A3 (A2 ?_)
 refine A5 rfl ?_
 refine B3 rfl ?_
 refine A4 ?_
 refine B8 ?_
 exact AE3 [0] 0 (nin THeld.ow (marksN THeld.markE THeld.markEN l k) xs) [] () (trivial) rfl (show List.Perm (nin THeld.ow (marksN THeld.markE THeld.markEN l k) xs) ((nin THeld.ow (marksN THeld.markE THeld.markEN l k) xs) ++ []) from e8) (by rfl) (U3 rfl (B7 rfl (by exact congrArg AV.int (by rw [hinv.2, List.take_of_length_le hge]))))
abbrev StX : Type := (Value × List Value) × (Value × List (Value × Value)) × Value
def TState.fit (s : TState) (x : StX) : Prop := x.1.2.length = s.Cells.length ∧ x.2.1.2.length = s.Held.length
def TState.ocs4 (s : TState) (x : StX) : List AV := [AV.int s.Floor, AV.is x.1.1, AV.is x.2.1.1, AV.is x.2.2]
def TState.ow4 (s : TState) (x : StX) : List Own := .arr x.1.1 125 2 (nrows TCell.ocs s.Cells x.1.2) :: .arr x.2.1.1 141 5 (nrows THeld.ocs s.Held x.2.1.2) :: .arr x.2.2 144 3 (s.Told.map TTold.cs) :: (nin THeld.ow s.Held x.2.1.2 ++ (nin TCell.ow s.Cells x.1.2))
theorem Ad9 (a : TState) (hs : a.size ≤ 1048576) : GSpec Tryz.prog 16 [AV.agg a.cs] [] (fun x : StX => TState.fit a x) (fun x => TState.ow4 a x) (fun x => AV.agg (TState.ocs4 a x)) := by
 unfold TState.size at hs
 refine K0 Tryz.func16 rfl Tryz.ntmps16 rfl ?_
 refine A3 (A2 ?_)
 refine I8 rfl rfl rfl rfl (A0 rfl) ?_
 intro b1
 refine I1 rfl rfl rfl rfl Tryz.zeroValue43 rfl ?_
 intro b2
 refine A4 (A3 (A2 ?_))
 refine I1 rfl rfl rfl rfl Tryz.zeroValue43 rfl ?_
 intro b3
 refine A4 (A3 (A2 ?_))
 refine A1 rfl (B2 0 rfl N0 rfl B9 (A0 rfl) rfl) ?_
 refine A1 rfl (B1 2 rfl (A0 rfl) rfl D2 rfl) ?_
 refine A1 rfl (B2 0 rfl E2 rfl B9 (A0 rfl) rfl) ?_
 refine J6 0 rfl rfl rfl (A0 rfl) (A0 rfl) (P9 _ _) rfl B9 rfl ?_
 refine A4 (A3 (A2 ?_))
 refine A1 rfl (B2 1 rfl N0 rfl Tryz.sizeOf30 (A0 rfl) rfl) ?_
 refine A1 rfl (B1 2 rfl (A0 rfl) rfl Tryz.isAgg30 rfl) ?_
 refine f9 [] 3 1 ([]) ([]) (fun zz => nin TCell.ow a.Cells zz.2) rfl rfl rfl rfl Tryz.call47 rfl rfl (show List.Perm ([]) (([]) ++ ([])) from List.Perm.refl _) (Ad7 a.Cells (by omega)) (A8 (A0 rfl) C7) (fun a => AH3) ?_
 intro x9 ok9
 refine A1 rfl (B2 1 rfl E2 rfl K5 (A0 rfl) rfl) ?_
 refine o0 0 rfl fun one_x9_1 => ?_
 refine J6 1 rfl rfl rfl (A0 rfl) (A0 rfl) (AD8 one_x9_1) rfl K5 rfl ?_
 refine A4 (A3 (A2 ?_))
 refine A1 rfl (B2 2 rfl N0 rfl Tryz.sizeOf31 (A0 rfl) rfl) ?_
 refine A1 rfl (B1 3 rfl (A0 rfl) rfl Tryz.isAgg31 rfl) ?_
 refine f9 [] 4 1 ([]) (nin TCell.ow a.Cells x9.2) (fun zz => nin THeld.ow a.Held zz.2 ++ (nin TCell.ow a.Cells x9.2)) rfl rfl rfl rfl Tryz.call48 rfl rfl (show List.Perm (nin TCell.ow a.Cells x9.2) (([]) ++ (nin TCell.ow a.Cells x9.2)) from List.Perm.refl _) (Ad8 a.Held (by omega)) (A8 (A0 rfl) C7) (fun a => List.Perm.refl _) ?_
 intro x13 ok13
 refine A1 rfl (B2 2 rfl E2 rfl M1 (A0 rfl) rfl) ?_
 refine o0 0 rfl fun one_x13_1 => ?_
 refine J6 2 rfl rfl rfl (A0 rfl) (A0 rfl) (AD8 one_x13_1) rfl M1 rfl ?_
 refine A4 (A3 (A2 ?_))
 refine A1 rfl (B2 3 rfl N0 rfl Tryz.sizeOf32 (A0 rfl) rfl) ?_
 refine A1 rfl (B1 4 rfl (A0 rfl) rfl Tryz.isAgg32 rfl) ?_
 refine Q8 [] rfl rfl rfl rfl Tryz.call49 rfl (Ad3 a.Told (by omega)) (A8 (A0 rfl) C7) rfl ?_
 intro x17 ok17
 refine A1 rfl (B2 3 rfl E2 rfl P7 (A0 rfl) rfl) ?_
 refine o0 0 rfl fun one_x17 => ?_
 refine J6 3 rfl rfl rfl (A0 rfl) (A0 rfl) (AD8 one_x17) rfl P7 rfl ?_
 refine A4 (A3 (A2 ?_))
 refine A1 rfl (K8 3 rfl (A0 rfl) rfl O0 L3 rfl) ?_
 refine H9 4 rfl rfl rfl (A0 rfl) (A0 rfl) (J4 _) rfl L3 rfl ?_
 refine A4 ?_
 refine B8 ?_
 exact AE3 [2, 1, 0] 3 (nin THeld.ow a.Held x13.2 ++ (nin TCell.ow a.Cells x9.2)) [] (x9, x13, x17) (⟨ok9, ok13⟩) rfl (show List.Perm (nin THeld.ow a.Held x13.2 ++ (nin TCell.ow a.Cells x9.2)) ((nin THeld.ow a.Held x13.2 ++ (nin TCell.ow a.Cells x9.2)) ++ []) from e8) (by rfl) (U3 rfl (V2 (ys := _) 4 rfl rfl O0 L3 rfl))
theorem AO5 (s : TState) (x : StX) (k : Int) (hl : TState.fit s x) (h : 0 ≤ k ∧ s.markN k ≤ 4611686018427387904) : GSpec Tryz.prog 20 [AV.agg (TState.ocs4 s x), AV.int k] (TState.ow4 s x) (fun _ : Unit => True) (fun _ => TState.ow4 (s.mark k) x) (fun _ => AV.int (s.markN k)) := by
 unfold TState.markN at h
 have hk := g6 TCell.markEN_le s.Cells k
 have hk2 := g6 THeld.markEN_le s.Held (countN TCell.markEN s.Cells k)
 refine K0 Tryz.func20 rfl Tryz.ntmps20 rfl ?_
 refine A3 (A2 ?_)
 refine I8 rfl rfl rfl rfl (A0 rfl) ?_
 intro b2
 refine A1 rfl (A9 rfl B4) ?_
 refine A4 (A3 (A2 ?_))
 refine A1 rfl (B2 1 rfl E2 rfl K5 (A0 rfl) rfl) ?_
 refine A1 rfl (B1 0 rfl (A0 rfl) rfl N1 rfl) ?_
 refine A5 rfl ?_
 refine f9 [1] 3 1 (nin TCell.ow s.Cells x.1.2) (nin THeld.ow s.Held x.2.1.2) (fun zz => nin TCell.ow (marksN TCell.markE TCell.markEN s.Cells k) x.1.2 ++ (nin THeld.ow s.Held x.2.1.2)) rfl rfl rfl rfl Tryz.call58 rfl rfl (show List.Perm (nin THeld.ow s.Held x.2.1.2 ++ (nin TCell.ow s.Cells x.1.2)) ((nin TCell.ow s.Cells x.1.2) ++ (nin THeld.ow s.Held x.2.1.2)) from List.perm_append_comm) (AO3 _ s.Cells x.1.2 k hl.1 (by omega)) (A8 (A0 rfl) (A8 (A0 rfl) C7)) (fun a => List.Perm.refl _) ?_
 intro x8 ok8
 refine B3 rfl ?_
 refine A4 (A3 (A2 ?_))
 refine A1 rfl (B2 2 rfl E2 rfl M1 (A0 rfl) rfl) ?_
 refine A1 rfl (B1 1 rfl (A0 rfl) rfl Q1 rfl) ?_
 refine A5 rfl ?_
 refine f9 [2] 3 1 (nin THeld.ow s.Held x.2.1.2) (nin TCell.ow (marksN TCell.markE TCell.markEN s.Cells k) x.1.2) (fun zz => nin THeld.ow (marksN THeld.markE THeld.markEN s.Held (countN TCell.markEN s.Cells k)) x.2.1.2 ++ (nin TCell.ow (marksN TCell.markE TCell.markEN s.Cells k) x.1.2)) rfl rfl rfl rfl Tryz.call59 rfl rfl (show List.Perm (nin TCell.ow (marksN TCell.markE TCell.markEN s.Cells k) x.1.2 ++ (nin THeld.ow s.Held x.2.1.2)) ((nin THeld.ow s.Held x.2.1.2) ++ (nin TCell.ow (marksN TCell.markE TCell.markEN s.Cells k) x.1.2)) from List.perm_append_comm) (AO4 _ s.Held x.2.1.2 (countN TCell.markEN s.Cells k) hl.2 (by omega)) (A8 (A0 rfl) (A8 (A0 rfl) C7)) (fun a => List.Perm.refl _) ?_
 intro x12 ok12
 refine B3 rfl ?_
 refine A4 (A3 (A2 ?_))
 refine A1 rfl (B2 3 rfl E2 rfl P7 (A0 rfl) rfl) ?_
 refine A1 rfl (B1 2 rfl (A0 rfl) rfl T9 rfl) ?_
 refine A5 rfl ?_
 refine Q8 [3] rfl rfl rfl rfl Tryz.call60 rfl (AO1 _ s.Told (countN THeld.markEN s.Held (countN TCell.markEN s.Cells k)) (by omega)) (A8 (A0 rfl) (A8 (A0 rfl) C7)) rfl ?_
 intro x16 ok16
 refine B3 rfl ?_
 refine A4 (A3 (A2 ?_))
 refine A5 rfl ?_
 refine B3 rfl ?_
 refine A4 ?_
 refine B8 ?_
 exact AE3 [2, 1, 0] 1 (nin THeld.ow (marksN THeld.markE THeld.markEN s.Held (countN TCell.markEN s.Cells k)) x.2.1.2 ++ (nin TCell.ow (marksN TCell.markE TCell.markEN s.Cells k) x.1.2)) [] () (trivial) rfl (show List.Perm (nin THeld.ow (marksN THeld.markE THeld.markEN s.Held (countN TCell.markEN s.Cells k)) x.2.1.2 ++ (nin TCell.ow (marksN TCell.markE TCell.markEN s.Cells k) x.1.2)) ((nin THeld.ow (marksN THeld.markE THeld.markEN s.Held (countN TCell.markEN s.Cells k)) x.2.1.2 ++ (nin TCell.ow (marksN TCell.markE TCell.markEN s.Cells k) x.1.2)) ++ []) from e8) (by rfl) (U3 rfl (B7 rfl (by rfl)))
end Go.Proofs.YtkegepoihkhihaaGreat

namespace Go.AV
open Go.ChangeShapes Go.WideShapes Go.ChangeAt Go.RowKit

def heapR (w : World) : RHeap := fun b => w.heap[b]?
theorem heapR_le (w : World) : RLe (heapR w) w := fun _ _ h => h
theorem Ak6 {w : World} {a : Addr} {v : Value} (h : w.cell? a = some v) : rcell (heapR w) a = some v := h

def Opens (P : Program) (t : TypeId) (α : Type) (enc : α → List AV) (ok : α → Prop) : Prop :=
  ∀ (H : Type) (en : TypeId × Value → H) (w : World) (base : Nat) (spare : Nat → Bool) (held : Bool) (fuel : Nat) (cs : List Value) (x : DataW H × List MemPlace),
    DataW.trod en P w base spare held fuel t cs = some x → ∃ a : α, ok a ∧ DenC (heapR w) cs (enc a)
theorem p8 {R : RHeap} {v : Value} {x : AV} (h : x.den R v) (h1 : v.oneCell' = true) : DenC R [v] [x] :=
  ⟨rfl, fun i u y hu hy => by
    cases i with
    | zero => simp at hu hy; subst hu; subst hy; exact ⟨h, h1⟩
    | succ i => simp at hu⟩
theorem Ae0 {R : RHeap} {vs us : List Value} {xs ys : List AV} (h : DenC R vs xs) (k : DenC R us ys) : DenC R (vs ++ us) (xs ++ ys) :=
  ⟨by simp [h.1, k.1], fun i v x hv hx => by
    by_cases hi : i < vs.length
    · rw [List.getElem?_append_left hi] at hv
      rw [List.getElem?_append_left (by rw [← h.1]; exact hi)] at hx
      exact h.2 i v x hv hx
    · rw [List.getElem?_append_right (by omega)] at hv
      rw [List.getElem?_append_right (by rw [← h.1]; omega), ← h.1] at hx
      exact k.2 _ v x hv hx⟩
section
variable {P : Program} {t e : TypeId}
theorem s5 {k : IntKind} (ht : P.underlying t = some (.int k)) : Opens P t Int (fun n => [AV.ik k n]) (fun n => (Lit.int k n).wf = true) := fun H en w base spare held fuel cs x h => by
  obtain ⟨n, rfl, _, hw⟩ := DataW.trod_int ht h
  exact ⟨n, hw, p8 rfl rfl⟩
theorem Ak7 (ht : P.underlying t = some .bool) : Opens P t Bool (fun b => [AV.bool b]) (fun _ => True) := fun H en w base spare held fuel cs x h => by
  obtain ⟨b, rfl, _⟩ := DataW.trod_bool ht h
  exact ⟨b, trivial, p8 rfl rfl⟩
theorem Ap1 (ht : P.underlying t = some .string) : Opens P t (List UInt8) (fun s => [AV.str s]) (fun s => s.length ≤ 9223372036854775807) := fun H en w base spare held fuel cs x h => by
  obtain ⟨s, rfl, _, hs⟩ := DataW.trod_string ht h
  refine ⟨s.data.toList, ?_, p8 (show _ = _ by simp) rfl⟩
  unfold maxLen at hs
  show s.data.toList.length ≤ _
  rw [Array.length_toList]
  have e : s.data.size = s.size := rfl
  omega
theorem Ag7 {α : Type} {p : Nat → α → Prop} : ∀ n, (∀ i, i < n → ∃ a, p i a) → ∃ l : List α, l.length = n ∧ ∀ (i : Nat) (a : α), l[i]? = some a → p i a
  | 0, _ => ⟨[], rfl, fun i a h => by simp at h⟩
  | n + 1, h => by
    obtain ⟨l, h1, h2⟩ := Ag7 n fun i hi => h i (by omega)
    obtain ⟨a, ha⟩ := h n (by omega)
    refine ⟨l ++ [a], by simp [h1], fun i b hb => ?_⟩
    by_cases hi : i < l.length
    · rw [List.getElem?_append_left hi] at hb; exact h2 i b hb
    · rw [List.getElem?_append_right (by omega)] at hb
      have hin : i = n := by
        have := (List.getElem?_eq_some_iff.1 hb).1
        simp at this; omega
      subst hin
      rw [h1] at hb; simp at hb; subst hb; exact ha
theorem Z5 {α : Type} {enc : α → List AV} {ok : α → Prop} {sz : Nat} (ht : P.underlying t = some (.slice e)) (hc : P.cellsOf e = sz) (h : Opens P e α enc ok) (hl : ∀ a, (enc a).length = sz) :
    Opens P t (List α) (fun l => [AV.list sz (l.map enc)]) (fun l => ∀ a ∈ l, ok a) := fun H en w base spare held fuel cs x hx => by
  rcases DataW.trod_slice ht hx with ⟨rfl, _⟩ | ⟨a, len, cap, elems, rest, n, _, rfl, _, _, hlc, hcm, hel, hi, _, _⟩
  · exact ⟨[], by simp, p8 ⟨none, 0, rfl, Nat.le_refl _, Nat.zero_le _, by simp, fun h => absurd rfl h⟩ rfl⟩
  · obtain ⟨l, h1, h2⟩ := Ag7 (p := fun i b => ok b ∧ ∃ cs', w.cells? base (a.add (i * sz)) sz = some cs' ∧ DenC (heapR w) cs' (enc b)) len fun i hil => by
      have := hi i hil
      rw [hc, List.getElem?_eq_getElem (by omega)] at this
      obtain ⟨cs', hcs, htr⟩ := Option.bind_eq_some_iff.1 this
      obtain ⟨b, hb, hd⟩ := h H en w base spare held n cs' _ htr
      exact ⟨b, hb, cs', hcs, hd⟩
    refine ⟨l, fun b hb => ?_, p8 ⟨some a, cap, by rw [A6, h1], by rw [A6, h1]; exact hlc, hcm, fun ec he => ?_, fun _ => ⟨a, rfl, fun j y hy => ?_⟩⟩ rfl⟩
    · obtain ⟨i, hib⟩ := List.getElem?_of_mem hb
      exact (h2 i b hib).1
    · obtain ⟨b, _, rfl⟩ := List.mem_map.1 he
      exact hl b
    · have hun : ∀ ec ∈ l.map enc, ec.length = sz := fun ec he => by
        obtain ⟨b, _, rfl⟩ := List.mem_map.1 he
        exact hl b
      have hjl : j < l.length * sz := by
        have := (List.getElem?_eq_some_iff.1 hy).1
        rwa [T6 hun, A6] at this
      have hsz : 0 < sz := by
        rcases Nat.eq_zero_or_pos sz with h0 | h0
        · subst h0; omega
        · exact h0
      have hij : j / sz < l.length := Nat.div_lt_of_lt_mul (by rw [Nat.mul_comm]; exact hjl)
      have hkm : j % sz < sz := Nat.mod_lt _ hsz
      have hjj : j / sz * sz + j % sz = j := by rw [Nat.mul_comm]; exact Nat.div_add_mod j sz
      have hb : l[j / sz]? = some l[j / sz] := List.getElem?_eq_getElem hij
      obtain ⟨_, cs', hcs, hd⟩ := h2 _ _ hb
      obtain ⟨_, hcl, hat⟩ := World.cells?_some hcs
      have hk : (enc l[j / sz])[j % sz]? = some ((enc l[j / sz])[j % sz]'(by rw [hl]; exact hkm)) := List.getElem?_eq_getElem _
      have hyk := U7 hun (i := j / sz) (e := enc l[j / sz]) (by rw [List.getElem?_map, hb]; rfl) hk
      rw [hjj, hy] at hyk
      injection hyk with hyk
      have hv : cs'[j % sz]? = some (cs'[j % sz]'(by rw [hcl]; exact hkm)) := List.getElem?_eq_getElem _
      have hcell := hat (j % sz) hkm
      rw [hv, u3, hjj] at hcell
      refine ⟨_, Ak6 hcell, ?_⟩
      have := hd.2 _ _ _ hv hk
      rw [hyk]; exact this
def OpensF (P : Program) (fs : List Field) (off : Nat) (α : Type) (enc : α → List AV) (ok : α → Prop) (total : Nat) : Prop :=
  ∀ (H : Type) (en : TypeId × Value → H) (w : World) (base : Nat) (spare : Nat → Bool) (held : Bool) (fuel : Nat) (cs : List Value), cs.length = total →
    (∀ f ∈ fs, ∃ x, DataW.trod en P w base spare held fuel f.type ((cs.drop f.offset).take (P.cellsOf f.type)) = some x) → ∃ a : α, ok a ∧ DenC (heapR w) (cs.drop off) (enc a)
theorem c8 {total : Nat} : OpensF P [] total Unit (fun _ => []) (fun _ => True) total := fun H en w base spare held fuel cs hl _ =>
  ⟨(), trivial, by rw [List.drop_eq_nil_of_le (by omega)]; exact ⟨rfl, fun i v x h => by simp at h⟩⟩
theorem L8 {α β : Type} {f : Field} {fs : List Field} {off m total : Nat} {enc : α → List AV} {enc' : β → List AV} {ok : α → Prop} {ok' : β → Prop} (h : Opens P f.type α enc ok) (ho : f.offset = off) (hm : P.cellsOf f.type = m)
    (k : OpensF P fs (off + m) β enc' ok' total) : OpensF P (f :: fs) off (α × β) (fun a => enc a.1 ++ enc' a.2) (fun a => ok a.1 ∧ ok' a.2) total := fun H en w base spare held fuel cs hl hf => by
  obtain ⟨x, hx⟩ := hf f (by simp)
  rw [ho, hm] at hx
  obtain ⟨a, h1, h2⟩ := h H en w base spare held fuel _ x hx
  obtain ⟨b, h3, h4⟩ := k H en w base spare held fuel cs hl fun g hg => hf g (by simp [hg])
  refine ⟨(a, b), ⟨h1, h3⟩, ?_⟩
  have := Ae0 h2 h4
  rwa [← List.drop_drop, List.take_append_drop] at this
theorem X5 {α : Type} {fs : Array Field} {enc : α → List AV} {ok : α → Prop} {total : Nat} (ht : P.underlying t = some (.struct fs)) (hc : P.cellsOf t = total) (h : OpensF P fs.toList 0 α enc ok total) : Opens P t α enc ok := fun H en w base spare held fuel cs x hx => by
  obtain ⟨xs, n, _, _, hl, hxl, hf⟩ := DataW.trod_struct ht hx
  obtain ⟨a, h1, h2⟩ := h H en w base spare held n cs (by rw [hl, hc]) fun f hfm => by
    obtain ⟨i, hi⟩ := List.getElem?_of_mem hfm
    have hi' : fs[i]? = some f := by rw [← Array.getElem?_toList]; exact hi
    have hlt : i < xs.length := by
      have := (Array.getElem?_eq_some_iff.1 hi').1
      omega
    exact ⟨xs[i], (hf i f hi').trans (List.getElem?_eq_getElem hlt)⟩
  exact ⟨a, h1, by simpa using h2⟩
theorem S7 {α β : Type} {enc : α → List AV} {enc' : β → List AV} {ok : α → Prop} {ok' : β → Prop} (f : α → β) (h : Opens P t α enc ok) (he : ∀ a, enc' (f a) = enc a) (ho : ∀ a, ok a → ok' (f a)) : Opens P t β enc' ok' := fun H en w base spare held fuel cs x hx => by
  obtain ⟨a, h1, h2⟩ := h H en w base spare held fuel cs x hx
  exact ⟨f a, ho a h1, by rw [he]; exact h2⟩
theorem arg_agg {H : Type} {en : TypeId × Value → H} {W : World} {base b0 : Nat} {spare : Nat → Bool} {held : Bool} {r : Reach} {α : Type} {fs : Array Field} {enc : α → List AV} {ok : α → Prop} {v : Value} {d : DataW H} {p : List MemPlace}
    (h : Opens P t α enc ok) (ht : P.underlying t = some (.struct fs)) (hv : Value.okWide P W r b0 t v) (hd : DataW.Trod en P W base spare held t v d p) : ∃ a, ok a ∧ (AV.agg (enc a)).den (heapR W) v := by
  obtain ⟨cs, rfl, _⟩ := okWide_struct ht hv
  obtain ⟨fuel, hf⟩ := hd
  obtain ⟨a, h1, h2⟩ := h H en W base spare held fuel _ _ hf
  exact ⟨a, h1, cs.toList, rfl, h2⟩
theorem AO6 {H : Type} {en : TypeId × Value → H} {W : World} {base : Nat} {spare : Nat → Bool} {held : Bool} {α : Type} {enc : α → AV} {ok : α → Prop} {v : Value} {d : DataW H} {p : List MemPlace}
    (h : Opens P t α (fun a => [enc a]) ok) (h1 : v.cells = #[v]) (hd : DataW.Trod en P W base spare held t v d p) : ∃ a, ok a ∧ (enc a).den (heapR W) v := by
  obtain ⟨fuel, hf⟩ := hd
  rw [h1] at hf
  obtain ⟨a, h2, h3⟩ := h H en W base spare held fuel _ _ hf
  exact ⟨a, h2, (h3.2 0 v _ rfl rfl).1⟩
theorem Ap2 {f : FuncId} {xs : List AV} {b : Bool} {W : World} {vs : List Value} (h : FSpec P f xs (AV.bool b)) (hd : DenV (heapR W) vs xs) :
    Calls P f vs.toArray W fun e w' => e = .returned (.bool b) ∧ Below W.heap.size W w' :=
  (h (heapR W) W vs (heapR_le W) hd).mono fun e w' ⟨v, R', h1, h2, _, _, h5⟩ => ⟨by rw [h1]; exact congrArg Ending.returned h2, h5⟩
end
end Go.AV
