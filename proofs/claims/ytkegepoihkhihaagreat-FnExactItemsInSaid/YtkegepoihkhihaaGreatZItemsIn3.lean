/- Texts of the claim, part 3. -/
import Derived.Laws.BytesArg
import Derived.Test.YtkegepoihkhihaaGreatRows
import Derived.Test.YtkegepoihkhihaaGreatZItemsIn2

set_option linter.unusedVariables false
set_option linter.unusedSimpArgs false
set_option maxRecDepth 100000
namespace Go.Proofs.YtkegepoihkhihaaGreat
open Go Go.AV Go.M
attribute [local irreducible] OpW OpA OpS AWP FSpec ESpec RetOk RvDen Le Ev GuardIs
theorem Aj0 {l : List TWrite} (h : sizeL TWrite.size l ≤ 4194304) : ∀ k ∈ wKeys l, k.length ≤ 4611686018427387904 := fun k hk => by
  obtain ⟨w, hw, rfl⟩ := List.mem_map.1 hk
  have := m6 (f := TWrite.size) hw
  have h2 : w.size = w.Key.length + w.Val.length := rfl
  omega
theorem l4 (l : List Str) (hs : ∀ k ∈ l, k.length ≤ 4611686018427387904) : FSpec Tryz.prog 119 [strs l] (AV.bool (areRising l)) := by
 refine D3 Tryz.func119 rfl Tryz.ntmps119 rfl ?_
 refine N7 (t := 0) rfl fun hl => ?_
 try simp only [A6] at hl
 refine A3 (A2 ?_)
 refine A1 rfl (A9 rfl E3) ?_
 refine A4 (A3 (A3 (A2 ?_)))
 refine A5 rfl ?_
 refine A1 rfl (E9 rfl D5 (A0 rfl)) ?_
 refine A1 rfl (C2 rfl B4) ?_
 refine A4 (C4 ?_)
 refine H2 [(0, _), (5, _), (6, _)] _ (fun (i : Nat) => i ≤ l.length ∧ areRising l = ((l.drop i).all goodKey && adj Op.bytesLess (l.drop (i - 1)))) (fun (i : Nat) => []) (fun (i : Nat) => [(7, AV.int i)]) (fun (i : Nat) => l.length - i) (0) ?_ (H1 ⟨rfl, rfl, rfl, rfl, trivial⟩) ?_
 ·exact ⟨Nat.zero_le _, rfl⟩
 intro i hinv
 refine A3 (A2 ?_)
 refine A1 rfl (G0 rfl (A0 rfl) (A0 rfl)) ?_
 refine A4 (A3 ?_)
 refine C0 (A0 rfl) ?_ ?_
 ·intro h8
  have k8 := of_decide_eq_true h8; try simp only [A6] at k8
  have hlt : i < l.length := by omega
  obtain ⟨x, hx⟩ := get_some hlt
  obtain ⟨y, hy⟩ := get_some (show i - 1 < l.length by omega)
  have hsx := hs x (H4 hx)
  refine C1 (A3 (C4 (A3 (A2 ?_))))
  refine A5 rfl ?_
  refine A1 rfl (I9 rfl D5 C6 (A0 rfl) (A0 rfl) hx (by first | omega | (simp only [D4, B0, szR] at *; omega))) ?_
  refine A1 rfl (J5 rfl (A0 rfl) E5 rfl) ?_
  refine B3 rfl ?_
  refine B3 rfl ?_
  refine A4 (A3 (A2 ?_))
  refine A5 rfl ?_
  refine A1 rfl (E1 rfl Tryz.call112 rfl (AV3 _ (by omega)) (A8 (A0 rfl) C7)) ?_
  refine A1 rfl (J3 rfl (A0 rfl)) ?_
  refine A5 rfl ?_
  refine H3 rfl (fun hc => C2 rfl (A0 rfl)) ?_
  refine H3 rfl (fun hc => R4 rfl (A7 rfl hc) B4) ?_
  refine H3 rfl (fun hc => C2 rfl (A7 rfl hc)) ?_
  refine G9 rfl rfl (D7 rfl rfl rfl) (fun hc => C2 rfl (A0 rfl)) ?_
  refine G9 rfl rfl (D7 rfl rfl rfl) (fun hc => C2 rfl (A0 rfl)) ?_
  refine G9 rfl rfl (D7 rfl rfl rfl) (fun hc => C2 rfl (A0 rfl)) ?_
  refine G9 rfl rfl (D7 rfl rfl rfl) (fun hc => P4 rfl (A7 rfl hc) B4 (by first | omega | ((try simp only [D4, B0, szR] at *); omega) | (have hc2 := hc; simp only [O6, beq_iff_eq, bne_iff_ne, A6, F4] at hc2; omega))) ?_
  refine G9 rfl rfl (D7 rfl rfl rfl) (fun hc => I9 rfl D5 C6 (A7 rfl hc) (A7 rfl hc) hy (by first | omega | ((try simp only [D4, B0, szR] at *); omega) | (have hc2 := hc; simp only [O6, beq_iff_eq, bne_iff_ne, A6, F4] at hc2; omega))) ?_
  refine G9 rfl rfl (D7 rfl rfl rfl) (fun hc => J5 rfl (A7 rfl hc) E5 rfl) ?_
  refine G9 rfl rfl (D7 rfl rfl rfl) (fun hc => w_sleq rfl (A7 rfl hc) (A7 rfl hc)) ?_
  refine H3 rfl (fun hc => H5 rfl (A7 rfl hc) (N2 rfl hc)) ?_
  refine A1 rfl (O1 rfl (A0 rfl) (F3 rfl)) ?_
  refine A4 ?_
  refine C0 (A0 rfl) ?_ ?_
  ·intro h27
   have hfin : areRising l = false := by rw [hinv.2]; cases hg : goodKey x with | false => (rw [e9 hx hg]; simp) | true => (have hb : 0 < i ∧ Op.bytesLess y x = false := (by have := bytesLess_tri y x; simp_all; try grind); rw [j9 hx hy hb.1 hb.2]; simp)
   refine A3 (A2 ?_)
   refine A1 rfl (A9 rfl E3) ?_
   refine A4 ?_
   refine B8 ?_
   exact E4 rfl (B7 rfl (by first | exact congrArg AV.bool hfin.symm | exact congrArg AV.bool (by rw [hinv.2, V9 hge, V8 hge]; rfl)))
  intro h27
  have hg : goodKey x = true ∧ (0 < i → Op.bytesLess y x = true) := by have := bytesLess_tri y x; simp_all
  refine C1 (A2 ?_)
  refine A1 rfl (F1 rfl (A0 rfl) B4 (by first | omega | (simp only [D4, B0, szR] at *; omega))) ?_
  refine A5 rfl ?_
  refine A4 ?_
  refine I0 i (i + 1) ?_ ?_ (H1 ⟨rfl, rfl, rfl, rfl, trivial⟩)
  ·exact ⟨by omega, by rw [hinv.2, k0 hx hg.1, j8 hx hy hg.2]⟩
  omega
 intro h8
 have k8 := of_decide_eq_false h8; try simp only [A6] at k8
 have hge : l.length ≤ i := by omega
 refine F5 ?_
 refine A3 (A2 ?_)
 refine A1 rfl (A9 rfl E3) ?_
 refine A4 ?_
 refine B8 ?_
 exact E4 rfl (B7 rfl (by first | exact congrArg AV.bool hfin.symm | exact congrArg AV.bool (by rw [hinv.2, V9 hge, V8 hge]; rfl)))
theorem AN1 (l : List TWrite) (hs : sizeL TWrite.size l ≤ 4194304) : FSpec Tryz.prog 216 [AV.list 3 (l.map TWrite.cs)] (strs (wKeys l)) := by
 have hl : l.length ≤ 4194304 := Nat.le_trans L1 hs
 refine D3 Tryz.func216 rfl Tryz.ntmps216 rfl ?_
 refine A3 (A2 ?_)
 refine A1 rfl (A9 rfl (c3 (sz := 1))) ?_
 refine A4 (A3 (A2 ?_))
 refine W9 rfl rfl rfl rfl D5 C6 ?_
 intro v6
 refine B3 rfl ?_
 refine A4 (A3 (A3 (A2 ?_)))
 refine A5 rfl ?_
 refine A1 rfl (E9 rfl E7 (A0 rfl)) ?_
 refine A1 rfl (C2 rfl B4) ?_
 refine A4 (C4 ?_)
 refine J8 [(2, _), (7, _), (8, _)] _ (fun (i : Nat) (v : Value) => i ≤ l.length) (fun (i : Nat) (v : Value) => [.arr v 9 1 ((l.take i).map fun w => [AV.str w.Key])]) (fun (i : Nat) (v : Value) => [(3, AV.is v), (9, AV.int i)]) (fun (i : Nat) (v : Value) => l.length - i) (0) (v6) ?_ (K7 (by rfl) ⟨rfl, rfl, rfl, rfl, rfl, trivial⟩) ?_
 ·exact Nat.zero_le _
 intro i v hinv
 refine A3 (A2 ?_)
 refine A1 rfl (G0 rfl (A0 rfl) (A0 rfl)) ?_
 refine A4 (A3 ?_)
 refine C0 (A0 rfl) ?_ ?_
 ·intro h10
  have k10 := of_decide_eq_true h10; try simp only [A6] at k10
  have hlt : i < l.length := by omega
  obtain ⟨x, hx⟩ := get_some hlt
  refine C1 (A3 (C4 (A3 (A2 ?_))))
  refine A1 rfl (I9 rfl E7 G1 (A0 rfl) (A0 rfl) hx (by first | omega | (simp only [D4, B0, szR] at *; omega))) ?_
  refine A1 rfl (H8 rfl (A0 rfl) P1 G1) ?_
  refine I1 rfl rfl rfl rfl Tryz.zeroValue101 rfl ?_
  intro b5
  refine H9 0 rfl rfl rfl (A0 rfl) (A0 rfl) (J4 _) rfl G1 rfl ?_
  refine A4 (A2 ?_)
  refine A5 rfl ?_
  refine A1 rfl (B2 0 rfl G2 rfl C6 (A0 rfl) rfl) ?_
  refine A1 rfl (B1 0 rfl (A0 rfl) rfl E5 rfl) ?_
  refine A1 rfl (X8 rfl D5 C6 Tryz.zeroValue9 rfl rfl rfl rfl (N3 (A0 rfl) (Q7 _) W7) rfl rfl) ?_
  refine U8 (by' := 16) 1 rfl rfl rfl rfl D5 Tryz.type9 rfl rfl rfl rfl rfl rfl (A0 rfl) (A0 rfl) rfl (by first | omega | (simp only [D4, B0, szR] at *; omega)) ?_
  intro v17_1
  refine B3 rfl ?_
  refine A4 (A2 ?_)
  refine A1 rfl (F1 rfl (A0 rfl) B4 (by first | omega | (simp only [D4, B0, szR] at *; omega))) ?_
  refine A5 rfl ?_
  refine A4 ?_
  refine J2 i v (i + 1) (v17_1) ?_ ?_ (S5 1 (by exact congrArg (fun z => [Own.arr v17_1 9 1 z]) (AA5 (f := fun w : TWrite => [AV.str w.Key]) hx)) ⟨rfl, rfl, rfl, rfl, rfl, trivial⟩)
  ·omega
  omega
 intro h10
 have k10 := of_decide_eq_false h10; try simp only [A6] at k10
 have hge : l.length ≤ i := by omega
 rw [List.take_of_length_le hge]
 refine F5 ?_
 refine A3 (A2 ?_)
 refine A5 rfl ?_
 refine B3 rfl ?_
 refine A4 ?_
 refine B8 ?_
 refine e6 0 2 rfl rfl ?_
 exact E4 rfl (B7 rfl (by exact congrArg (AV.list 1) (by unfold wKeys; rw [List.map_map]; rfl)))
theorem AH9 (w : TWrite) (h : w.size ≤ 4194304) : FSpec Tryz.prog 217 [AV.agg w.cs] (AV.bool (!isStored w.Val w.Gone)) := by
 unfold TWrite.size at h
 refine D3 Tryz.func217 rfl Tryz.ntmps217 rfl ?_
 refine A3 (A2 ?_)
 refine I8 rfl rfl rfl rfl (A0 rfl) ?_
 intro b1
 refine A1 rfl (A9 rfl E3) ?_
 refine A4 (A3 (A2 ?_))
 refine A1 rfl (B2 1 rfl G2 rfl C6 (A0 rfl) rfl) ?_
 refine A1 rfl (B1 0 rfl (A0 rfl) rfl E5 rfl) ?_
 refine A1 rfl (B2 2 rfl G2 rfl F8 (A0 rfl) rfl) ?_
 refine A1 rfl (B1 0 rfl (A0 rfl) rfl I5 rfl) ?_
 refine A1 rfl (E1 rfl Tryz.call113 rfl (AA1 _ _ (by omega)) (A8 (A0 rfl) (A8 (A0 rfl) C7))) ?_
 refine A1 rfl (J3 rfl (A0 rfl)) ?_
 refine B3 rfl ?_
 refine A4 ?_
 refine B8 ?_
 exact E4 rfl (B7 rfl (by first | rfl | (refine congrArg AV.bool ?_; simp_all; done)))
theorem AK4 (l : List TWrite) (hs : sizeL TWrite.size l ≤ 4194304) : FSpec Tryz.prog 185 [AV.list 3 (l.map TWrite.cs)] (AV.bool (goodWrites l)) := by
 have hm : ∀ x ∈ l, x.size ≤ 4194304 := fun x hx => Nat.le_trans (m6 hx) hs
 refine D3 Tryz.func185 rfl Tryz.ntmps185 rfl ?_
 refine A3 (A2 ?_)
 refine A1 rfl (A9 rfl E3) ?_
 refine A4 (A3 (A2 ?_))
 refine A5 rfl ?_
 refine A1 rfl (E9 rfl E7 (A0 rfl)) ?_
 refine A1 rfl (R7 rfl (A0 rfl) B4) ?_
 refine A5 rfl ?_
 refine D1 rfl (fun hc => C2 rfl (A0 rfl)) ?_
 refine D1 rfl (fun hc => E1 rfl Tryz.call216 rfl (AN1 _ (by assumption)) (A8 (A7 rfl hc) C7)) ?_
 refine D1 rfl (fun hc => E1 rfl Tryz.call119 rfl (l4 _ (by first | assumption | exact Aj0 (by assumption))) (A8 (A7 rfl hc) C7)) ?_
 refine A1 rfl (H5 rfl (A0 rfl) (F3 rfl)) ?_
 refine A5 rfl ?_
 refine D1 rfl (fun hc => C2 rfl (A0 rfl)) ?_
 refine D1 rfl (fun hc => E1 rfl Tryz.call141 rfl (X0 _ _ _ (by first | (intros; trivial) | assumption | (intros; first | trivial | (simp_all; done)))) (A8 (A7 rfl hc) (A8 (ev_fun1 Tryz.call217 (fun w h => AH9 w h)) C7))) ?_
 refine D1 rfl (fun hc => J3 rfl (A7 rfl hc)) ?_
 refine A1 rfl (H5 rfl (A0 rfl) (F3 rfl)) ?_
 refine B3 rfl ?_
 refine A4 ?_
 refine B8 ?_
 exact E4 rfl (B7 rfl (by exact congrArg AV.bool (by unfold goodWrites; simp only [A6])))
theorem AS3 (l : List TWrite) (hs : sizeL TWrite.size l ≤ 1048576) : FSpec Tryz.prog 163 [AV.list 3 (l.map TWrite.cs)] (AV.bool (l3Writes l)) := by
 refine D3 Tryz.func163 rfl Tryz.ntmps163 rfl ?_
 refine N7 (t := 0) rfl fun hl => ?_
 try simp only [A6] at hl
 refine A3 (A2 ?_)
 refine A1 rfl (A9 rfl E3) ?_
 refine A4 (A3 (A3 (A2 ?_)))
 refine A5 rfl ?_
 refine A1 rfl (E9 rfl E7 (A0 rfl)) ?_
 refine A1 rfl (C2 rfl B4) ?_
 refine A4 (C4 ?_)
 refine H2 [(0, _), (5, _), (6, _)] _ (fun (i : Nat) => i ≤ l.length ∧ (l.all wGood && adj wLess l) = ((l.drop i).all wGood && adj wLess (l.drop (i - 1)))) (fun (i : Nat) => []) (fun (i : Nat) => [(7, AV.int i)]) (fun (i : Nat) => l.length - i) (0) ?_ (H1 ⟨rfl, rfl, rfl, rfl, trivial⟩) ?_
 ·exact ⟨Nat.zero_le _, rfl⟩
 intro i hinv
 refine A3 (A2 ?_)
 refine A1 rfl (G0 rfl (A0 rfl) (A0 rfl)) ?_
 refine A4 (A3 ?_)
 refine C0 (A0 rfl) ?_ ?_
 ·intro h8
  have k8 := of_decide_eq_true h8; try simp only [A6] at k8
  have hlt : i < l.length := by omega
  obtain ⟨x, hx⟩ := get_some hlt
  obtain ⟨y, hy⟩ := get_some (show i - 1 < l.length by omega)
  have hsx : x.size ≤ 1048576 := Nat.le_trans (Q5 hx) hs
  unfold TWrite.size at hsx
  refine C1 (A3 (C4 (A3 (A2 ?_))))
  refine A5 rfl ?_
  refine A1 rfl (I9 rfl E7 G1 (A0 rfl) (A0 rfl) hx (by first | omega | (simp only [D4, B0, szR] at *; omega))) ?_
  refine A1 rfl (H8 rfl (A0 rfl) P1 G1) ?_
  refine I1 rfl rfl rfl rfl Tryz.zeroValue101 rfl ?_
  intro b4
  refine B3 rfl ?_
  refine H9 0 rfl rfl rfl (A0 rfl) (A0 rfl) (J4 _) rfl G1 rfl ?_
  refine A4 (A3 ?_)
  refine H7 (by kernel_rfl) (by kernel_rfl) rfl ?_
  refine B5 rfl rfl (B2 0 rfl G2 rfl C6 (A0 rfl) rfl) ?_
  refine B5 rfl rfl (B1 0 rfl (A0 rfl) rfl E5 rfl) ?_
  refine B5 rfl rfl (B2 1 rfl G2 rfl C6 (A0 rfl) rfl) ?_
  refine B5 rfl rfl (B1 0 rfl (A0 rfl) rfl E5 rfl) ?_
  refine B5 rfl rfl (B2 2 rfl G2 rfl F8 (A0 rfl) rfl) ?_
  refine B5 rfl rfl (B1 0 rfl (A0 rfl) rfl I5 rfl) ?_
  refine B5 rfl rfl (E1 rfl Tryz.call165 rfl (AC1 _ _ _ (by omega) (by omega)) (A8 (A0 rfl) (A8 (A0 rfl) (A8 (A0 rfl) C7)))) ?_
  refine B5 rfl rfl (J3 rfl (A0 rfl)) ?_
  refine B5 rfl rfl (C2 rfl (A0 rfl)) ?_
  refine D9 rfl (G6 rfl rfl rfl) (fun hc => C2 rfl (A0 rfl)) ?_
  refine D9 rfl (G6 rfl rfl rfl) (fun hc => R4 rfl (A7 rfl hc) B4) ?_
  refine D9 rfl (G6 rfl rfl rfl) (fun hc => C2 rfl (A7 rfl hc)) ?_
  refine D9 rfl (D7 rfl rfl rfl) (fun hc => C2 rfl (A0 rfl)) ?_
  refine D9 rfl (D7 rfl rfl rfl) (fun hc => C2 rfl (A0 rfl)) ?_
  refine D9 rfl (D7 rfl rfl rfl) (fun hc => P4 rfl (A7 rfl hc) B4 (by first | omega | ((try simp only [D4, B0, szR] at *); omega) | (have hc2 := hc; simp only [O6, beq_iff_eq, bne_iff_ne, A6, F4] at hc2; omega))) ?_
  refine D9 rfl (D7 rfl rfl rfl) (fun hc => I9 rfl E7 G1 (A7 rfl hc) (A7 rfl hc) hy (by first | omega | ((try simp only [D4, B0, szR] at *); omega) | (have hc2 := hc; simp only [O6, beq_iff_eq, bne_iff_ne, A6, F4] at hc2; omega))) ?_
  refine D9 rfl (D7 rfl rfl rfl) (fun hc => Q2 rfl G2 rfl C6 (A7 rfl hc) rfl) ?_
  refine D9 rfl (D7 rfl rfl rfl) (fun hc => J5 rfl (A7 rfl hc) E5 rfl) ?_
  refine D9 rfl (D7 rfl rfl rfl) (fun hc => B2 0 rfl G2 rfl C6 (A0 rfl) rfl) ?_
  refine D9 rfl (D7 rfl rfl rfl) (fun hc => B1 0 rfl (A7 rfl hc) rfl E5 rfl) ?_
  refine D9 rfl (D7 rfl rfl rfl) (fun hc => AU4 rfl (A7 rfl hc) (A7 rfl hc)) ?_
  refine D9 rfl (G6 rfl rfl rfl) (fun hc => H5 rfl (A7 rfl hc) (N2 rfl hc)) ?_
  refine B5 rfl rfl (O1 rfl (A0 rfl) (F3 rfl)) ?_
  refine O5 ?_
  refine C0 (A0 rfl) ?_ ?_
  ·intro h34
   have hfin : l3Writes l = false := by unfold l3Writes; rw [hinv.2]; cases hg : wGood x with | false => (rw [e9 hx hg]; simp) | true => (have hb : 0 < i ∧ wLess y x = false := (by unfold wGood at hg; unfold wLess; simp_all; try grind); rw [j9 hx hy hb.1 hb.2]; simp)
   refine A3 (A2 ?_)
   refine A1 rfl (A9 rfl E3) ?_
   refine A4 ?_
   refine B8 ?_
   exact E4 rfl (B7 rfl (by first | exact congrArg AV.bool hfin.symm | exact congrArg AV.bool (by unfold l3Writes; rw [hinv.2, V9 hge, V8 hge, A6]; simp)))
  intro h34
  have hg : wGood x = true ∧ (0 < i → wLess y x = true) := by unfold wGood wLess; simp_all
  refine C1 (A2 ?_)
  refine A1 rfl (F1 rfl (A0 rfl) B4 (by first | omega | (simp only [D4, B0, szR] at *; omega))) ?_
  refine A5 rfl ?_
  refine A4 ?_
  refine I0 i (i + 1) ?_ ?_ (S3 1 ⟨rfl, rfl, rfl, rfl, trivial⟩)
  ·exact ⟨by omega, by rw [hinv.2, k0 hx hg.1, j8 hx hy hg.2]⟩
  omega
 intro h8
 have k8 := of_decide_eq_false h8; try simp only [A6] at k8
 have hge : l.length ≤ i := by omega
 refine F5 ?_
 refine A3 (A2 ?_)
 refine A5 rfl ?_
 refine A1 rfl (E9 rfl E7 (A0 rfl)) ?_
 refine A1 rfl (R7 rfl (A0 rfl) B4) ?_
 refine B3 rfl ?_
 refine A4 ?_
 refine B8 ?_
 exact E4 rfl (B7 rfl (by first | exact congrArg AV.bool hfin.symm | exact congrArg AV.bool (by unfold l3Writes; rw [hinv.2, V9 hge, V8 hge, A6]; simp)))
end Go.Proofs.YtkegepoihkhihaaGreat

namespace Go.Proofs.YtkegepoihkhihaaGreat
open Go Go.AV Go.M
attribute [local irreducible] OpW OpA OpS AWP FSpec ESpec RetOk RvDen Le Ev GuardIs
theorem AK5 (w : TWrite) (k : Str) : FSpec Tryz.prog 230 [AV.agg w.cs, AV.str k] (AV.int (wCmp k w)) := by
 refine D3 Tryz.func230 rfl Tryz.ntmps230 rfl ?_
 refine A3 (A2 ?_)
 refine I8 rfl rfl rfl rfl (A0 rfl) ?_
 intro b2
 refine A1 rfl (A9 rfl B4) ?_
 refine A4 (A3 (A2 ?_))
 refine A1 rfl (B2 0 rfl G2 rfl C6 (A0 rfl) rfl) ?_
 refine A1 rfl (B1 0 rfl (A0 rfl) rfl E5 rfl) ?_
 refine A5 rfl ?_
 refine A1 rfl (E1 rfl Tryz.call105 rfl (AE9 _ _) (A8 (A0 rfl) (A8 (A0 rfl) C7))) ?_
 refine B3 rfl ?_
 refine A4 ?_
 refine B8 ?_
 exact E4 rfl (B7 rfl (by first | rfl | (refine congrArg AV.bool ?_; simp_all; done)))
theorem AN2 (l : List TWrite) (k : Str) (hs : l.length ≤ 4611686018427387903) : FSpec Tryz.prog 219 [AV.list 3 (l.map TWrite.cs), AV.str k] (AV.tup [AV.int (wPos l k), AV.bool (wHas l k)]) := by
 refine D3 Tryz.func219 rfl Tryz.ntmps219 rfl ?_
 refine A3 (A2 ?_)
 refine A1 rfl (A9 rfl B4) ?_
 refine A1 rfl (A9 rfl E3) ?_
 refine A4 (A3 (A2 ?_))
 refine A5 rfl ?_
 refine A5 rfl ?_
 refine A1 rfl (E1 rfl Tryz.call229 rfl (t1 _ _ _ (by first | (intros; trivial) | assumption | (intros; first | trivial | (simp_all; done))) _ (by omega)) (A8 (A0 rfl) (A8 (A0 rfl) (A8 (AL9 Tryz.call230 (fun w k (_ : True) => AK5 w k)) C7)))) ?_
 refine A1 rfl (M2 rfl (A0 rfl) rfl) ?_
 refine A1 rfl (M2 rfl (A0 rfl) rfl) ?_
 refine B3 rfl ?_
 refine B3 rfl ?_
 refine A4 ?_
 refine B8 ?_
 exact s6 rfl (by decide) (N8 (B7 rfl (by first | rfl | (refine congrArg AV.bool ?_; simp_all; done))) (N8 (B7 rfl (by first | rfl | (refine congrArg AV.bool ?_; simp_all; done))) W6))
end Go.Proofs.YtkegepoihkhihaaGreat

namespace Go.Proofs.YtkegepoihkhihaaGreat
open Go Go.AV Go.M
attribute [local irreducible] OpW OpA OpS AWP FSpec ESpec RetOk RvDen Le Ev GuardIs
theorem p5 {c : TCell} {n : Nat} (h : c.size ≤ n) : c.Key.length ≤ n ∧ c.Vers.length ≤ n ∧ sizeL TVer.size c.Vers ≤ n := by
  unfold TCell.size at h
  have : c.Vers.length ≤ n := Nat.le_trans L1 (show sizeL TVer.size c.Vers ≤ n by omega)
  omega
theorem t7 (t : Int) : FSpec Tryz.prog 52 [AV.int t] (AV.bool (isTrue t)) := by
 refine D3 Tryz.func52 rfl Tryz.ntmps52 rfl ?_
 refine A3 (A2 ?_)
 refine A1 rfl (A9 rfl E3) ?_
 refine A4 (A3 (A2 ?_))
 refine A5 rfl ?_
 refine A1 rfl (E1 rfl Tryz.call82 rfl (V1 _ _ _) (A8 (A0 rfl) (A8 B4 (A8 B4 C7)))) ?_
 refine B3 rfl ?_
 refine A4 ?_
 refine B8 ?_
 exact E4 rfl (B7 rfl (by first | rfl | (refine congrArg AV.bool ?_; simp_all; done)))
theorem Ab6 (t : Int) : FSpec Tryz.prog 161 [AV.int t] (AV.bool (within t 1 100000)) := by
 refine D3 Tryz.func161 rfl Tryz.ntmps161 rfl ?_
 refine A3 (A2 ?_)
 refine A1 rfl (A9 rfl E3) ?_
 refine A4 (A3 (A2 ?_))
 refine A5 rfl ?_
 refine A1 rfl (E1 rfl Tryz.call39 rfl (R9 _ _ _) (A8 (A0 rfl) (A8 B4 (A8 B4 C7)))) ?_
 refine B3 rfl ?_
 refine A4 ?_
 refine B8 ?_
 exact E4 rfl (B7 rfl (by first | rfl | (refine congrArg AV.bool ?_; simp_all; done)))
theorem Ab7 (t : Int) : FSpec Tryz.prog 124 [AV.int t] (AV.bool (isTrue t)) := by
 refine D3 Tryz.func124 rfl Tryz.ntmps124 rfl ?_
 refine A3 (A2 ?_)
 refine A1 rfl (A9 rfl E3) ?_
 refine A4 (A3 (A2 ?_))
 refine A5 rfl ?_
 refine A1 rfl (E1 rfl Tryz.call39 rfl (R9 _ _ _) (A8 (A0 rfl) (A8 B4 (A8 B4 C7)))) ?_
 refine B3 rfl ?_
 refine A4 ?_
 refine B8 ?_
 exact E4 rfl (B7 rfl (by first | rfl | (refine congrArg AV.bool ?_; simp_all; done)))
theorem Ab8 (c : TCell) (hs : c.size ≤ 4194304) : FSpec Tryz.prog 118 [AV.agg c.cs] (AV.bool (isCell c)) := by
 have hcl := p5 hs
 refine D3 Tryz.func118 rfl Tryz.ntmps118 rfl ?_
 refine A3 (A2 ?_)
 refine I8 rfl rfl rfl rfl (A0 rfl) ?_
 intro b1
 refine A1 rfl (A9 rfl E3) ?_
 refine A4 (A3 (A3 (A2 ?_)))
 refine A1 rfl (B2 1 rfl F2 rfl K2 (A0 rfl) rfl) ?_
 refine A1 rfl (B1 0 rfl (A0 rfl) rfl M0 rfl) ?_
 refine A1 rfl (E9 rfl G5 (A0 rfl)) ?_
 refine A1 rfl (C2 rfl B4) ?_
 refine A4 (C4 ?_)
 refine H2 [(1, _), (6, _), (7, _)] _ (fun (i : Nat) => i ≤ c.Vers.length ∧ (c.Vers.all verGood && adj verLess c.Vers) = ((c.Vers.drop i).all verGood && adj verLess (c.Vers.drop (i - 1)))) (fun (i : Nat) => []) (fun (i : Nat) => [(8, AV.int i)]) (fun (i : Nat) => c.Vers.length - i) (0) ?_ (H1 ⟨rfl, rfl, rfl, rfl, trivial⟩) ?_
 ·exact ⟨Nat.zero_le _, rfl⟩
 intro i hinv
 refine A3 (A2 ?_)
 refine A1 rfl (G0 rfl (A0 rfl) (A0 rfl)) ?_
 refine A4 (A3 ?_)
 refine C0 (A0 rfl) ?_ ?_
 ·intro h9
  have k9 := of_decide_eq_true h9; try simp only [A6] at k9
  have hlt : i < c.Vers.length := by omega
  obtain ⟨x, hx⟩ := get_some hlt
  obtain ⟨y, hy⟩ := get_some (show i - 1 < c.Vers.length by omega)
  have hsx : x.size ≤ 4194304 := Nat.le_trans (Q5 hx) hcl.2.2
  unfold TVer.size at hsx
  refine C1 (A3 (C4 (A3 (A2 ?_))))
  refine A5 rfl ?_
  refine A1 rfl (I9 rfl G5 I4 (A0 rfl) (A0 rfl) hx (by first | omega | (simp only [D4, B0, szR] at *; omega))) ?_
  refine A1 rfl (H8 rfl (A0 rfl) U2 I4) ?_
  refine I1 rfl rfl rfl rfl Tryz.zeroValue127 rfl ?_
  intro b4
  refine B3 rfl ?_
  refine H9 0 rfl rfl rfl (A0 rfl) (A0 rfl) (J4 _) rfl I4 rfl ?_
  refine A4 (A3 ?_)
  refine H7 (by kernel_rfl) (by kernel_rfl) rfl ?_
  refine B5 rfl rfl (B2 0 rfl F7 rfl B9 (A0 rfl) rfl) ?_
  refine B5 rfl rfl (B1 0 rfl (A0 rfl) rfl D2 rfl) ?_
  refine B5 rfl rfl (E1 rfl Tryz.call111 rfl (Z3 _) (A8 (A0 rfl) C7)) ?_
  refine B5 rfl rfl (J3 rfl (A0 rfl)) ?_
  refine B5 rfl rfl (C2 rfl (A0 rfl)) ?_
  refine D9 rfl (G6 rfl rfl rfl) (fun hc => B2 1 rfl F7 rfl C6 (A0 rfl) rfl) ?_
  refine D9 rfl (G6 rfl rfl rfl) (fun hc => B1 0 rfl (A7 rfl hc) rfl E5 rfl) ?_
  refine D9 rfl (G6 rfl rfl rfl) (fun hc => B2 2 rfl F7 rfl F8 (A0 rfl) rfl) ?_
  refine D9 rfl (G6 rfl rfl rfl) (fun hc => B1 0 rfl (A7 rfl hc) rfl I5 rfl) ?_
  refine D9 rfl (G6 rfl rfl rfl) (fun hc => E1 rfl Tryz.call113 rfl (AA1 _ _ (by omega)) (A8 (A7 rfl hc) (A8 (A7 rfl hc) C7))) ?_
  refine D9 rfl (G6 rfl rfl rfl) (fun hc => J3 rfl (A7 rfl hc)) ?_
  refine B5 rfl rfl (O1 rfl (A0 rfl) (F3 rfl)) ?_
  refine B5 rfl rfl (C2 rfl (A0 rfl)) ?_
  refine D9 rfl (G6 rfl rfl rfl) (fun hc => C2 rfl (A0 rfl)) ?_
  refine D9 rfl (G6 rfl rfl rfl) (fun hc => R4 rfl (A7 rfl hc) B4) ?_
  refine D9 rfl (G6 rfl rfl rfl) (fun hc => C2 rfl (A7 rfl hc)) ?_
  refine D9 rfl (D7 rfl rfl rfl) (fun hc => B2 0 rfl F7 rfl B9 (A0 rfl) rfl) ?_
  refine D9 rfl (D7 rfl rfl rfl) (fun hc => B1 0 rfl (A7 rfl hc) rfl D2 rfl) ?_
  refine D9 rfl (D7 rfl rfl rfl) (fun hc => B2 1 rfl F2 rfl K2 (A0 rfl) rfl) ?_
  refine D9 rfl (D7 rfl rfl rfl) (fun hc => B1 1 rfl (A7 rfl hc) rfl M0 rfl) ?_
  refine D9 rfl (D7 rfl rfl rfl) (fun hc => C2 rfl (A0 rfl)) ?_
  refine D9 rfl (D7 rfl rfl rfl) (fun hc => P4 rfl (A7 rfl hc) B4 (by first | omega | ((try simp only [D4, B0, szR] at *); omega) | (have hc2 := hc; simp only [O6, beq_iff_eq, bne_iff_ne, A6, F4] at hc2; omega))) ?_
  refine D9 rfl (D7 rfl rfl rfl) (fun hc => I9 rfl G5 I4 (A7 rfl hc) (A7 rfl hc) hy (by first | omega | ((try simp only [D4, B0, szR] at *); omega) | (have hc2 := hc; simp only [O6, beq_iff_eq, bne_iff_ne, A6, F4] at hc2; omega))) ?_
  refine D9 rfl (D7 rfl rfl rfl) (fun hc => Q2 rfl F7 rfl B9 (A7 rfl hc) rfl) ?_
  refine D9 rfl (D7 rfl rfl rfl) (fun hc => J5 rfl (A7 rfl hc) D2 rfl) ?_
  refine D9 rfl (D7 rfl rfl rfl) (fun hc => R7 rfl (A7 rfl hc) (A7 rfl hc)) ?_
  refine D9 rfl (G6 rfl rfl rfl) (fun hc => H5 rfl (A7 rfl hc) (N2 rfl hc)) ?_
  refine B5 rfl rfl (O1 rfl (A0 rfl) (F3 rfl)) ?_
  refine O5 ?_
  refine C0 (A0 rfl) ?_ ?_
  ·intro h40
   have hfin : isCell c = false := by unfold isCell; rw [hinv.2]; cases hg : verGood x with | false => (rw [e9 hx hg]; simp) | true => (have hb : 0 < i ∧ verLess y x = false := (by unfold verGood at hg; unfold verLess; simp_all; try grind); rw [j9 hx hy hb.1 hb.2]; simp)
   refine A3 (A2 ?_)
   refine A1 rfl (A9 rfl E3) ?_
   refine A4 ?_
   refine B8 ?_
   exact E4 rfl (B7 rfl (by first | exact congrArg AV.bool hfin.symm | exact congrArg AV.bool (by unfold isCell; rw [hinv.2, V9 hge, V8 hge]; simp)))
  intro h40
  have hg : verGood x = true ∧ (0 < i → verLess y x = true) := by unfold verGood verLess; simp_all
  refine C1 (A2 ?_)
  refine A1 rfl (F1 rfl (A0 rfl) B4 (by first | omega | (simp only [D4, B0, szR] at *; omega))) ?_
  refine A5 rfl ?_
  refine A4 ?_
  refine I0 i (i + 1) ?_ ?_ (S3 1 ⟨rfl, rfl, rfl, rfl, trivial⟩)
  ·exact ⟨by omega, by rw [hinv.2, k0 hx hg.1, j8 hx hy hg.2]⟩
  omega
 intro h9
 have k9 := of_decide_eq_false h9; try simp only [A6] at k9
 have hge : c.Vers.length ≤ i := by omega
 refine F5 ?_
 refine A3 (A2 ?_)
 refine A1 rfl (B2 1 rfl F2 rfl K2 (A0 rfl) rfl) ?_
 refine A1 rfl (B1 0 rfl (A0 rfl) rfl M0 rfl) ?_
 refine A1 rfl (E9 rfl G5 (A0 rfl)) ?_
 refine A1 rfl (E1 rfl Tryz.call82 rfl (V1 _ _ _) (A8 (A0 rfl) (A8 B4 (A8 B4 C7)))) ?_
 refine B3 rfl ?_
 refine A4 ?_
 refine B8 ?_
 exact E4 rfl (B7 rfl (by first | exact congrArg AV.bool hfin.symm | exact congrArg AV.bool (by unfold isCell; rw [hinv.2, V9 hge, V8 hge]; simp)))
theorem Ab9 (c : TCell) (hs : c.size ≤ 4194304) : FSpec Tryz.prog 176 [AV.agg c.cs] (AV.bool (l3Cell c)) := by
 have hcl := p5 hs
 refine D3 Tryz.func176 rfl Tryz.ntmps176 rfl ?_
 refine A3 (A2 ?_)
 refine I8 rfl rfl rfl rfl (A0 rfl) ?_
 intro b1
 refine A1 rfl (A9 rfl E3) ?_
 refine A4 (A3 (A3 (A2 ?_)))
 refine A1 rfl (B2 1 rfl F2 rfl K2 (A0 rfl) rfl) ?_
 refine A1 rfl (B1 0 rfl (A0 rfl) rfl M0 rfl) ?_
 refine A1 rfl (E9 rfl G5 (A0 rfl)) ?_
 refine A1 rfl (C2 rfl B4) ?_
 refine A4 (C4 ?_)
 refine H2 [(1, _), (6, _), (7, _)] _ (fun (i : Nat) => i ≤ c.Vers.length ∧ (c.Vers.all (verGoodS c.Key) && adj verLess c.Vers) = ((c.Vers.drop i).all (verGoodS c.Key) && adj verLess (c.Vers.drop (i - 1)))) (fun (i : Nat) => []) (fun (i : Nat) => [(8, AV.int i)]) (fun (i : Nat) => c.Vers.length - i) (0) ?_ (H1 ⟨rfl, rfl, rfl, rfl, trivial⟩) ?_
 ·exact ⟨Nat.zero_le _, rfl⟩
 intro i hinv
 refine A3 (A2 ?_)
 refine A1 rfl (G0 rfl (A0 rfl) (A0 rfl)) ?_
 refine A4 (A3 ?_)
 refine C0 (A0 rfl) ?_ ?_
 ·intro h9
  have k9 := of_decide_eq_true h9; try simp only [A6] at k9
  have hlt : i < c.Vers.length := by omega
  obtain ⟨x, hx⟩ := get_some hlt
  obtain ⟨y, hy⟩ := get_some (show i - 1 < c.Vers.length by omega)
  have hsx : x.size ≤ 4194304 := Nat.le_trans (Q5 hx) hcl.2.2
  unfold TVer.size at hsx
  refine C1 (A3 (C4 (A3 (A2 ?_))))
  refine A5 rfl ?_
  refine A1 rfl (I9 rfl G5 I4 (A0 rfl) (A0 rfl) hx (by first | omega | (simp only [D4, B0, szR] at *; omega))) ?_
  refine A1 rfl (H8 rfl (A0 rfl) U2 I4) ?_
  refine I1 rfl rfl rfl rfl Tryz.zeroValue127 rfl ?_
  intro b4
  refine B3 rfl ?_
  refine H9 0 rfl rfl rfl (A0 rfl) (A0 rfl) (J4 _) rfl I4 rfl ?_
  refine A4 (A3 ?_)
  refine H7 (by kernel_rfl) (by kernel_rfl) rfl ?_
  refine B5 rfl rfl (B2 0 rfl F7 rfl B9 (A0 rfl) rfl) ?_
  refine B5 rfl rfl (B1 0 rfl (A0 rfl) rfl D2 rfl) ?_
  refine B5 rfl rfl (E1 rfl Tryz.call161 rfl (Ab6 _) (A8 (A0 rfl) C7)) ?_
  refine B5 rfl rfl (J3 rfl (A0 rfl)) ?_
  refine B5 rfl rfl (C2 rfl (A0 rfl)) ?_
  refine D9 rfl (G6 rfl rfl rfl) (fun hc => B2 0 rfl F2 rfl C6 (A0 rfl) rfl) ?_
  refine D9 rfl (G6 rfl rfl rfl) (fun hc => B1 1 rfl (A7 rfl hc) rfl E5 rfl) ?_
  refine D9 rfl (G6 rfl rfl rfl) (fun hc => B2 1 rfl F7 rfl C6 (A0 rfl) rfl) ?_
  refine D9 rfl (G6 rfl rfl rfl) (fun hc => B1 0 rfl (A7 rfl hc) rfl E5 rfl) ?_
  refine D9 rfl (G6 rfl rfl rfl) (fun hc => B2 2 rfl F7 rfl F8 (A0 rfl) rfl) ?_
  refine D9 rfl (G6 rfl rfl rfl) (fun hc => B1 0 rfl (A7 rfl hc) rfl I5 rfl) ?_
  refine D9 rfl (G6 rfl rfl rfl) (fun hc => E1 rfl Tryz.call165 rfl (AC1 _ _ _ (by omega) (by omega)) (A8 (A7 rfl hc) (A8 (A7 rfl hc) (A8 (A7 rfl hc) C7)))) ?_
  refine D9 rfl (G6 rfl rfl rfl) (fun hc => J3 rfl (A7 rfl hc)) ?_
  refine B5 rfl rfl (O1 rfl (A0 rfl) (F3 rfl)) ?_
  refine B5 rfl rfl (C2 rfl (A0 rfl)) ?_
  refine D9 rfl (G6 rfl rfl rfl) (fun hc => C2 rfl (A0 rfl)) ?_
  refine D9 rfl (G6 rfl rfl rfl) (fun hc => R4 rfl (A7 rfl hc) B4) ?_
  refine D9 rfl (G6 rfl rfl rfl) (fun hc => C2 rfl (A7 rfl hc)) ?_
  refine D9 rfl (D7 rfl rfl rfl) (fun hc => B2 1 rfl F2 rfl K2 (A0 rfl) rfl) ?_
  refine D9 rfl (D7 rfl rfl rfl) (fun hc => B1 1 rfl (A7 rfl hc) rfl M0 rfl) ?_
  refine D9 rfl (D7 rfl rfl rfl) (fun hc => C2 rfl (A0 rfl)) ?_
  refine D9 rfl (D7 rfl rfl rfl) (fun hc => P4 rfl (A7 rfl hc) B4 (by first | omega | ((try simp only [D4, B0, szR] at *); omega) | (have hc2 := hc; simp only [O6, beq_iff_eq, bne_iff_ne, A6, F4] at hc2; omega))) ?_
  refine D9 rfl (D7 rfl rfl rfl) (fun hc => I9 rfl G5 I4 (A7 rfl hc) (A7 rfl hc) hy (by first | omega | ((try simp only [D4, B0, szR] at *); omega) | (have hc2 := hc; simp only [O6, beq_iff_eq, bne_iff_ne, A6, F4] at hc2; omega))) ?_
  refine D9 rfl (D7 rfl rfl rfl) (fun hc => Q2 rfl F7 rfl B9 (A7 rfl hc) rfl) ?_
  refine D9 rfl (D7 rfl rfl rfl) (fun hc => J5 rfl (A7 rfl hc) D2 rfl) ?_
  refine D9 rfl (D7 rfl rfl rfl) (fun hc => B2 0 rfl F7 rfl B9 (A0 rfl) rfl) ?_
  refine D9 rfl (D7 rfl rfl rfl) (fun hc => B1 0 rfl (A7 rfl hc) rfl D2 rfl) ?_
  refine D9 rfl (D7 rfl rfl rfl) (fun hc => X1 rfl (A7 rfl hc) (A7 rfl hc)) ?_
  refine D9 rfl (G6 rfl rfl rfl) (fun hc => H5 rfl (A7 rfl hc) (N2 rfl hc)) ?_
  refine B5 rfl rfl (O1 rfl (A0 rfl) (F3 rfl)) ?_
  refine O5 ?_
  refine C0 (A0 rfl) ?_ ?_
  ·intro h42
   have hfin : l3Cell c = false := by unfold l3Cell; rw [hinv.2]; cases hg : verGoodS c.Key x with | false => (rw [e9 hx hg]; simp) | true => (have hb : 0 < i ∧ verLess y x = false := (by unfold verGoodS at hg; unfold verLess; simp_all; try grind); rw [j9 hx hy hb.1 hb.2]; simp)
   refine A3 (A2 ?_)
   refine A1 rfl (A9 rfl E3) ?_
   refine A4 ?_
   refine B8 ?_
   exact E4 rfl (B7 rfl (by first | exact congrArg AV.bool hfin.symm | exact congrArg AV.bool (by unfold l3Cell; rw [hinv.2, V9 hge, V8 hge]; simp)))
  intro h42
  have hg : verGoodS c.Key x = true ∧ (0 < i → verLess y x = true) := by unfold verGoodS verLess; simp_all
  refine C1 (A2 ?_)
  refine A1 rfl (F1 rfl (A0 rfl) B4 (by first | omega | (simp only [D4, B0, szR] at *; omega))) ?_
  refine A5 rfl ?_
  refine A4 ?_
  refine I0 i (i + 1) ?_ ?_ (S3 1 ⟨rfl, rfl, rfl, rfl, trivial⟩)
  ·exact ⟨by omega, by rw [hinv.2, k0 hx hg.1, j8 hx hy hg.2]⟩
  omega
 intro h9
 have k9 := of_decide_eq_false h9; try simp only [A6] at k9
 have hge : c.Vers.length ≤ i := by omega
 refine F5 ?_
 refine A3 (A2 ?_)
 refine A1 rfl (B2 0 rfl F2 rfl C6 (A0 rfl) rfl) ?_
 refine A1 rfl (B1 0 rfl (A0 rfl) rfl E5 rfl) ?_
 refine A1 rfl (E1 rfl Tryz.call198 rfl (x6 _ (by omega)) (A8 (A0 rfl) C7)) ?_
 refine A5 rfl ?_
 refine D1 rfl (fun hc => B2 1 rfl F2 rfl K2 (A0 rfl) rfl) ?_
 refine D1 rfl (fun hc => B1 0 rfl (A7 rfl hc) rfl M0 rfl) ?_
 refine D1 rfl (fun hc => E9 rfl G5 (A7 rfl hc)) ?_
 refine D1 rfl (fun hc => E1 rfl Tryz.call39 rfl (R9 _ _ _) (A8 (A7 rfl hc) (A8 B4 (A8 B4 C7)))) ?_
 refine A1 rfl (H5 rfl (A0 rfl) (F3 rfl)) ?_
 refine B3 rfl ?_
 refine A4 ?_
 refine B8 ?_
 exact E4 rfl (B7 rfl (by first | exact congrArg AV.bool hfin.symm | exact congrArg AV.bool (by unfold l3Cell; rw [hinv.2, V9 hge, V8 hge]; simp)))
theorem AN3 (l : List TCell) (hs : sizeL TCell.size l ≤ 4194304) : FSpec Tryz.prog 77 [AV.list 2 (l.map TCell.cs)] (AV.bool (goodCells l)) := by
 have hl : l.length ≤ 4194304 := Nat.le_trans L1 hs
 have hks : ∀ k ∈ cKeys l, k.length ≤ 4611686018427387904 := fun k hk => by
  obtain ⟨w, hw, rfl⟩ := List.mem_map.1 hk
  have := p5 (Nat.le_trans (m6 hw) hs)
  omega
 refine D3 Tryz.func77 rfl Tryz.ntmps77 rfl ?_
 refine A3 (A2 ?_)
 refine A1 rfl (A9 rfl E3) ?_
 refine A4 (A3 (A2 ?_))
 refine W9 rfl rfl rfl rfl D5 C6 ?_
 intro v6
 refine B3 rfl ?_
 refine A4 (A3 (A3 (A2 ?_)))
 refine A5 rfl ?_
 refine A1 rfl (E9 rfl F0 (A0 rfl)) ?_
 refine A1 rfl (C2 rfl B4) ?_
 refine A4 (C4 ?_)
 refine J8 [(0, _), (7, _), (8, _)] _ (fun (i : Nat) (v : Value) => i ≤ l.length ∧ l.all isCell = (l.drop i).all isCell) (fun (i : Nat) (v : Value) => [.arr v 9 1 ((l.take i).map fun w => [AV.str w.Key])]) (fun (i : Nat) (v : Value) => [(3, AV.is v), (9, AV.int i)]) (fun (i : Nat) (v : Value) => l.length - i) (0) (v6) ?_ (K7 (by rfl) ⟨rfl, rfl, rfl, rfl, rfl, trivial⟩) ?_
 ·exact ⟨Nat.zero_le _, rfl⟩
 intro i v hinv
 refine A3 (A2 ?_)
 refine A1 rfl (G0 rfl (A0 rfl) (A0 rfl)) ?_
 refine A4 (A3 ?_)
 refine C0 (A0 rfl) ?_ ?_
 ·intro h10
  have k10 := of_decide_eq_true h10; try simp only [A6] at k10
  have hlt : i < l.length := by omega
  obtain ⟨x, hx⟩ := get_some hlt
  have hsx : x.size ≤ 4194304 := Nat.le_trans (Q5 hx) hs
  refine C1 (A3 (C4 (A3 (A2 ?_))))
  refine A1 rfl (I9 rfl F0 E8 (A0 rfl) (A0 rfl) hx (by first | omega | (simp only [D4, B0, szR] at *; omega))) ?_
  refine A1 rfl (H8 rfl (A0 rfl) L9 E8) ?_
  refine I1 rfl rfl rfl rfl Tryz.zeroValue125 rfl ?_
  intro b5
  refine H9 0 rfl rfl rfl (A0 rfl) (A0 rfl) (J4 _) rfl E8 rfl ?_
  refine A4 (A3 (A3 (A2 ?_)))
  refine A1 rfl (K8 0 rfl (A0 rfl) rfl L9 E8 rfl) ?_
  refine A1 rfl (E1 rfl Tryz.call118 rfl (Ab8 _ (by first | assumption | omega)) (A8 (A0 rfl) C7)) ?_
  refine A1 rfl (J3 rfl (A0 rfl)) ?_
  refine A4 ?_
  refine C0 (A0 rfl) ?_ ?_
  ·intro h15
   refine A3 (A2 ?_)
   refine A1 rfl (A9 rfl E3) ?_
   refine A4 ?_
   refine B8 ?_
   exact E4 rfl (B7 rfl (by first | exact congrArg AV.bool (by unfold goodCells; rw [hinv.2, e9 hx (by simpa using h15)]; rfl) | exact congrArg AV.bool (by unfold goodCells; rw [hinv.2, V9 hge, A6]; simp)))
  intro h15
  refine C1 (A2 ?_)
  refine A5 rfl ?_
  refine A1 rfl (B2 0 rfl F2 rfl C6 (A0 rfl) rfl) ?_
  refine A1 rfl (B1 0 rfl (A0 rfl) rfl E5 rfl) ?_
  refine A1 rfl (X8 rfl D5 C6 Tryz.zeroValue9 rfl rfl rfl rfl (N3 (A0 rfl) (Q7 _) W7) rfl rfl) ?_
  refine U8 (by' := 16) 1 rfl rfl rfl rfl D5 Tryz.type9 rfl rfl rfl rfl rfl rfl (A0 rfl) (A0 rfl) rfl (by first | omega | (simp only [D4, B0, szR] at *; omega)) ?_
  intro v20_1
  refine B3 rfl ?_
  refine A4 (A2 ?_)
  refine A1 rfl (F1 rfl (A0 rfl) B4 (by first | omega | (simp only [D4, B0, szR] at *; omega))) ?_
  refine A5 rfl ?_
  refine A4 ?_
  refine J2 i v (i + 1) (v20_1) ?_ ?_ (S5 1 (by exact congrArg (fun z => [Own.arr v20_1 9 1 z]) (AA5 (f := fun w : TCell => [AV.str w.Key]) hx)) ⟨rfl, rfl, rfl, rfl, rfl, trivial⟩)
  ·exact ⟨by omega, by rw [hinv.2, k0 hx (by simpa using h15)]⟩
  omega
 intro h10
 have k10 := of_decide_eq_false h10; try simp only [A6] at k10
 have hge : l.length ≤ i := by omega
 rw [List.take_of_length_le hge, show (l.map fun w => [AV.str w.Key]) = (cKeys l).map (fun k => [AV.str k]) from by unfold cKeys; rw [List.map_map]; rfl]
 refine F5 ?_
 refine A3 (A2 ?_)
 refine A5 rfl ?_
 refine A1 rfl (E9 rfl F0 (A0 rfl)) ?_
 refine A1 rfl (R7 rfl (A0 rfl) B4) ?_
 refine A5 rfl ?_
 refine D1 rfl (fun hc => C2 rfl (A0 rfl)) ?_
 refine D1 rfl (fun hc => Z1 rfl Tryz.call119 rfl (l4 (cKeys l) hks) (C3 _) (L2 (j6 0 (A7 rfl hc) rfl) T1)) ?_
 refine A1 rfl (H5 rfl (A0 rfl) (F3 rfl)) ?_
 refine B3 rfl ?_
 refine A4 ?_
 refine B8 ?_
 exact E4 rfl (B7 rfl (by first | exact congrArg AV.bool (by unfold goodCells; rw [hinv.2, e9 hx (by simpa using h15)]; rfl) | exact congrArg AV.bool (by unfold goodCells; rw [hinv.2, V9 hge, A6]; simp)))
theorem Ac0 (l : List TCell) (hs : sizeL TCell.size l ≤ 4194304) : FSpec Tryz.prog 125 [AV.list 2 (l.map TCell.cs)] (AV.bool (l3Good l)) := by
 refine D3 Tryz.func125 rfl Tryz.ntmps125 rfl ?_
 refine N7 (t := 0) rfl fun hl => ?_
 try simp only [A6] at hl
 refine A3 (A2 ?_)
 refine A1 rfl (A9 rfl E3) ?_
 refine A4 (A3 (A3 (A2 ?_)))
 refine A5 rfl ?_
 refine A1 rfl (E9 rfl F0 (A0 rfl)) ?_
 refine A1 rfl (C2 rfl B4) ?_
 refine A4 (C4 ?_)
 refine H2 [(0, _), (5, _), (6, _)] _ (fun (i : Nat) => i ≤ l.length ∧ (l.all l3Cell && adj cLess l) = ((l.drop i).all l3Cell && adj cLess (l.drop (i - 1)))) (fun (i : Nat) => []) (fun (i : Nat) => [(7, AV.int i)]) (fun (i : Nat) => l.length - i) (0) ?_ (H1 ⟨rfl, rfl, rfl, rfl, trivial⟩) ?_
 ·exact ⟨Nat.zero_le _, rfl⟩
 intro i hinv
 refine A3 (A2 ?_)
 refine A1 rfl (G0 rfl (A0 rfl) (A0 rfl)) ?_
 refine A4 (A3 ?_)
 refine C0 (A0 rfl) ?_ ?_
 ·intro h8
  have k8 := of_decide_eq_true h8; try simp only [A6] at k8
  have hlt : i < l.length := by omega
  obtain ⟨x, hx⟩ := get_some hlt
  obtain ⟨y, hy⟩ := get_some (show i - 1 < l.length by omega)
  have hsx : x.size ≤ 4194304 := Nat.le_trans (Q5 hx) hs
  refine C1 (A3 (C4 (A3 (A2 ?_))))
  refine A5 rfl ?_
  refine A1 rfl (I9 rfl F0 E8 (A0 rfl) (A0 rfl) hx (by first | omega | (simp only [D4, B0, szR] at *; omega))) ?_
  refine A1 rfl (H8 rfl (A0 rfl) L9 E8) ?_
  refine I1 rfl rfl rfl rfl Tryz.zeroValue125 rfl ?_
  intro b4
  refine B3 rfl ?_
  refine H9 0 rfl rfl rfl (A0 rfl) (A0 rfl) (J4 _) rfl E8 rfl ?_
  refine A4 (A3 ?_)
  refine H7 (by kernel_rfl) (by kernel_rfl) rfl ?_
  refine B5 rfl rfl (K8 0 rfl (A0 rfl) rfl L9 E8 rfl) ?_
  refine B5 rfl rfl (E1 rfl Tryz.call176 rfl (Ab9 _ (by first | assumption | omega)) (A8 (A0 rfl) C7)) ?_
  refine B5 rfl rfl (J3 rfl (A0 rfl)) ?_
  refine B5 rfl rfl (C2 rfl (A0 rfl)) ?_
  refine D9 rfl (G6 rfl rfl rfl) (fun hc => C2 rfl (A0 rfl)) ?_
  refine D9 rfl (G6 rfl rfl rfl) (fun hc => R4 rfl (A7 rfl hc) B4) ?_
  refine D9 rfl (G6 rfl rfl rfl) (fun hc => C2 rfl (A7 rfl hc)) ?_
  refine D9 rfl (D7 rfl rfl rfl) (fun hc => C2 rfl (A0 rfl)) ?_
  refine D9 rfl (D7 rfl rfl rfl) (fun hc => C2 rfl (A0 rfl)) ?_
  refine D9 rfl (D7 rfl rfl rfl) (fun hc => P4 rfl (A7 rfl hc) B4 (by first | omega | ((try simp only [D4, B0, szR] at *); omega) | (have hc2 := hc; simp only [O6, beq_iff_eq, bne_iff_ne, A6, F4] at hc2; omega))) ?_
  refine D9 rfl (D7 rfl rfl rfl) (fun hc => I9 rfl F0 E8 (A7 rfl hc) (A7 rfl hc) hy (by first | omega | ((try simp only [D4, B0, szR] at *); omega) | (have hc2 := hc; simp only [O6, beq_iff_eq, bne_iff_ne, A6, F4] at hc2; omega))) ?_
  refine D9 rfl (D7 rfl rfl rfl) (fun hc => Q2 rfl F2 rfl C6 (A7 rfl hc) rfl) ?_
  refine D9 rfl (D7 rfl rfl rfl) (fun hc => J5 rfl (A7 rfl hc) E5 rfl) ?_
  refine D9 rfl (D7 rfl rfl rfl) (fun hc => B2 0 rfl F2 rfl C6 (A0 rfl) rfl) ?_
  refine D9 rfl (D7 rfl rfl rfl) (fun hc => B1 0 rfl (A7 rfl hc) rfl E5 rfl) ?_
  refine D9 rfl (D7 rfl rfl rfl) (fun hc => AU4 rfl (A7 rfl hc) (A7 rfl hc)) ?_
  refine D9 rfl (G6 rfl rfl rfl) (fun hc => H5 rfl (A7 rfl hc) (N2 rfl hc)) ?_
  refine B5 rfl rfl (O1 rfl (A0 rfl) (F3 rfl)) ?_
  refine O5 ?_
  refine C0 (A0 rfl) ?_ ?_
  ·intro h29
   have hfin : l3Good l = false := by unfold l3Good; rw [hinv.2]; cases hg : l3Cell x with | false => (rw [e9 hx hg]; simp) | true => (have hb : 0 < i ∧ cLess y x = false := (by unfold cLess; simp_all; try grind); rw [j9 hx hy hb.1 hb.2]; simp)
   refine A3 (A2 ?_)
   refine A1 rfl (A9 rfl E3) ?_
   refine A4 ?_
   refine B8 ?_
   exact E4 rfl (B7 rfl (by first | exact congrArg AV.bool hfin.symm | exact congrArg AV.bool (by unfold l3Good; rw [hinv.2, V9 hge, V8 hge, A6]; simp)))
  intro h29
  have hg : l3Cell x = true ∧ (0 < i → cLess y x = true) := by unfold cLess; simp_all
  refine C1 (A2 ?_)
  refine A1 rfl (F1 rfl (A0 rfl) B4 (by first | omega | (simp only [D4, B0, szR] at *; omega))) ?_
  refine A5 rfl ?_
  refine A4 ?_
  refine I0 i (i + 1) ?_ ?_ (S3 1 ⟨rfl, rfl, rfl, rfl, trivial⟩)
  ·exact ⟨by omega, by rw [hinv.2, k0 hx hg.1, j8 hx hy hg.2]⟩
  omega
 intro h8
 have k8 := of_decide_eq_false h8; try simp only [A6] at k8
 have hge : l.length ≤ i := by omega
 refine F5 ?_
 refine A3 (A2 ?_)
 refine A5 rfl ?_
 refine A1 rfl (E9 rfl F0 (A0 rfl)) ?_
 refine A1 rfl (R7 rfl (A0 rfl) B4) ?_
 refine B3 rfl ?_
 refine A4 ?_
 refine B8 ?_
 exact E4 rfl (B7 rfl (by first | exact congrArg AV.bool hfin.symm | exact congrArg AV.bool (by unfold l3Good; rw [hinv.2, V9 hge, V8 hge, A6]; simp)))
theorem AN4 (c : TCell) (k : Str) : FSpec Tryz.prog 173 [AV.agg c.cs, AV.str k] (AV.int (cCmp k c)) := by
 refine D3 Tryz.func173 rfl Tryz.ntmps173 rfl ?_
 refine A3 (A2 ?_)
 refine I8 rfl rfl rfl rfl (A0 rfl) ?_
 intro b2
 refine A1 rfl (A9 rfl B4) ?_
 refine A4 (A3 (A2 ?_))
 refine A1 rfl (B2 0 rfl F2 rfl C6 (A0 rfl) rfl) ?_
 refine A1 rfl (B1 0 rfl (A0 rfl) rfl E5 rfl) ?_
 refine A5 rfl ?_
 refine A1 rfl (E1 rfl Tryz.call105 rfl (AE9 _ _) (A8 (A0 rfl) (A8 (A0 rfl) C7))) ?_
 refine B3 rfl ?_
 refine A4 ?_
 refine B8 ?_
 exact E4 rfl (B7 rfl (by first | rfl | (refine congrArg AV.bool ?_; simp_all; done)))
theorem AA7 (l : List TCell) (k : Str) (hs : l.length ≤ 4611686018427387903) : FSpec Tryz.prog 122 [AV.list 2 (l.map TCell.cs), AV.str k] (AV.tup [AV.int (cPos l k), AV.bool (cHas l k)]) := by
 refine D3 Tryz.func122 rfl Tryz.ntmps122 rfl ?_
 refine A3 (A2 ?_)
 refine A1 rfl (A9 rfl B4) ?_
 refine A1 rfl (A9 rfl E3) ?_
 refine A4 (A3 (A2 ?_))
 refine A5 rfl ?_
 refine A5 rfl ?_
 refine A1 rfl (E1 rfl Tryz.call172 rfl (u9 _ _ _ (by first | (intros; trivial) | assumption | (intros; first | trivial | (simp_all; done))) _ (by omega)) (A8 (A0 rfl) (A8 (A0 rfl) (A8 (AL9 Tryz.call173 (fun c k (_ : True) => AN4 c k)) C7)))) ?_
 refine A1 rfl (M2 rfl (A0 rfl) rfl) ?_
 refine A1 rfl (M2 rfl (A0 rfl) rfl) ?_
 refine B3 rfl ?_
 refine B3 rfl ?_
 refine A4 ?_
 refine B8 ?_
 exact s6 rfl (by decide) (N8 (B7 rfl (by first | rfl | (refine congrArg AV.bool ?_; simp_all; done))) (N8 (B7 rfl (by first | rfl | (refine congrArg AV.bool ?_; simp_all; done))) W6))
theorem AQ9 {c : TCell} (h : 1 ≤ c.Vers.length) : ∃ v, c.Vers[c.Vers.length - 1]? = some v ∧ lastV c = v.Time := by
  obtain ⟨v, hv⟩ := get_some (show c.Vers.length - 1 < c.Vers.length by omega)
  refine ⟨v, hv, ?_⟩
  unfold lastV; rw [List.getLast?_eq_getElem?, hv]
theorem AA8 (l : List TCell) (k : Str) (ho : CellsOk l) (hs : sizeL TCell.size l ≤ 4194304) : FSpec Tryz.prog 92 [AV.list 2 (l.map TCell.cs), AV.str k] (AV.int (lastTime l k)) := by
 have hl : l.length ≤ 4194304 := Nat.le_trans L1 hs
 refine D3 Tryz.func92 rfl Tryz.ntmps92 rfl ?_
 refine A3 (A2 ?_)
 refine A1 rfl (A9 rfl B4) ?_
 refine A4 (A3 (A2 ?_))
 refine A5 rfl ?_
 refine A5 rfl ?_
 refine A1 rfl (E1 rfl Tryz.call122 rfl (AA7 _ _ (by first | assumption | omega)) (A8 (A0 rfl) (A8 (A0 rfl) C7))) ?_
 refine A5 rfl ?_
 refine A1 rfl (M2 rfl (A0 rfl) rfl) ?_
 refine A1 rfl (M2 rfl (A0 rfl) rfl) ?_
 refine B3 rfl ?_
 refine B3 rfl ?_
 refine A4 (A3 (A3 (A2 ?_)))
 refine A5 rfl ?_
 refine A1 rfl (J3 rfl (A0 rfl)) ?_
 refine A4 ?_
 refine C0 (A0 rfl) ?_ ?_
 ·intro h14
  have hn : cHas l k = false := by simpa using h14
  have he : lastTime l k = 0 := by unfold lastTime; rw [AH7 ho.1, hn]; rfl
  rw [he]
  refine A3 (A2 ?_)
  refine A1 rfl (A9 rfl B4) ?_
  refine A4 ?_
  refine B8 ?_
  exact E4 rfl (B7 rfl (by first | rfl | (refine congrArg AV.bool ?_; simp_all; done)))
 intro h14
 have hn : cHas l k = true := by simpa using h14
 obtain ⟨c, hc, hck⟩ := y5.1 hn
 obtain ⟨v, hv, hlv⟩ := AQ9 (ho.2 c (H4 hc))
 have hcl := p5 (Nat.le_trans (Q5 hc) hs)
 have hc1 := ho.2 c (H4 hc)
 have he : lastTime l k = v.Time := by unfold lastTime; rw [AH7 ho.1, hn, if_pos rfl, hc]; exact hlv
 rw [he]
 refine C1 (A3 ?_)
 refine H7 (by kernel_rfl) (by kernel_rfl) rfl ?_
 refine B5 rfl rfl (C2 rfl (A0 rfl)) ?_
 refine B5 rfl rfl (C2 rfl (A0 rfl)) ?_
 refine B5 rfl rfl (I9 rfl F0 E8 (A0 rfl) (A0 rfl) hc (by first | omega | (simp only [D4, B0, szR] at *; omega))) ?_
 refine B5 rfl rfl (Q2 rfl F2 rfl K2 (A0 rfl) rfl) ?_
 refine B5 rfl rfl (J5 rfl (A0 rfl) M0 rfl) ?_
 refine B5 rfl rfl (C2 rfl (A0 rfl)) ?_
 refine B5 rfl rfl (C2 rfl (A0 rfl)) ?_
 refine B5 rfl rfl (I9 rfl F0 E8 (A0 rfl) (A0 rfl) hc (by first | omega | (simp only [D4, B0, szR] at *; omega))) ?_
 refine B5 rfl rfl (Q2 rfl F2 rfl K2 (A0 rfl) rfl) ?_
 refine B5 rfl rfl (J5 rfl (A0 rfl) M0 rfl) ?_
 refine B5 rfl rfl (E9 rfl G5 (A0 rfl)) ?_
 refine B5 rfl rfl (P4 rfl (A0 rfl) B4 (by first | omega | (simp only [D4, B0, szR] at *; omega))) ?_
 refine B5 rfl rfl (I9 rfl G5 I4 (A0 rfl) (A0 rfl) hv (by first | omega | (simp only [D4, B0, szR] at *; omega))) ?_
 refine B5 rfl rfl (Q2 rfl F7 rfl B9 (A0 rfl) rfl) ?_
 refine B5 rfl rfl (J5 rfl (A0 rfl) D2 rfl) ?_
 refine B5 rfl rfl (A9 rfl (A0 rfl)) ?_
 refine O5 ?_
 refine B8 ?_
 exact E4 rfl (B7 rfl (by first | rfl | (refine congrArg AV.bool ?_; simp_all; done)))
theorem AR0 (l : List TCell) (k : Str) : FSpec Tryz.prog 180 [AV.list 2 (l.map TCell.cs), AV.str k] (AV.int (atC l k)) := by
 refine D3 Tryz.func180 rfl Tryz.ntmps180 rfl ?_
 refine N7 (t := 0) rfl fun hl => ?_
 try simp only [A6] at hl
 refine A3 (A2 ?_)
 refine A1 rfl (A9 rfl B4) ?_
 refine A4 (A3 (A3 (A2 ?_)))
 refine A5 rfl ?_
 refine A1 rfl (E9 rfl F0 (A0 rfl)) ?_
 refine A1 rfl (C2 rfl B4) ?_
 refine A4 (C4 ?_)
 refine H2 [(1, _), (7, _), (8, _)] _ (fun (i : Nat) => i ≤ l.length ∧ ∀ j x, j < i → l[j]? = some x → x.Key ≠ k) (fun (i : Nat) => []) (fun (i : Nat) => [(9, AV.int i)]) (fun (i : Nat) => l.length - i) (0) ?_ (H1 ⟨rfl, rfl, rfl, rfl, trivial⟩) ?_
 ·exact ⟨Nat.zero_le _, fun j x h => by omega⟩
 intro i hinv
 refine A3 (A2 ?_)
 refine A1 rfl (G0 rfl (A0 rfl) (A0 rfl)) ?_
 refine A4 (A3 ?_)
 refine C0 (A0 rfl) ?_ ?_
 ·intro h10
  have k10 := of_decide_eq_true h10; try simp only [A6] at k10
  have hlt : i < l.length := by omega
  obtain ⟨x, hx⟩ := get_some hlt
  refine C1 (A3 (C4 (A3 (A2 ?_))))
  refine A5 rfl ?_
  refine A1 rfl (I9 rfl F0 E8 (A0 rfl) (A0 rfl) hx (by first | omega | (simp only [D4, B0, szR] at *; omega))) ?_
  refine A1 rfl (H8 rfl (A0 rfl) L9 E8) ?_
  refine I1 rfl rfl rfl rfl Tryz.zeroValue125 rfl ?_
  intro b6
  refine B3 rfl ?_
  refine H9 0 rfl rfl rfl (A0 rfl) (A0 rfl) (J4 _) rfl E8 rfl ?_
  refine A4 (A3 (A2 ?_))
  refine A1 rfl (B2 0 rfl F2 rfl C6 (A0 rfl) rfl) ?_
  refine A1 rfl (B1 0 rfl (A0 rfl) rfl E5 rfl) ?_
  refine A5 rfl ?_
  refine A1 rfl (o3 rfl (A0 rfl) (A0 rfl)) ?_
  refine A4 ?_
  refine C0 (A0 rfl) ?_ ?_
  ·intro h17
   refine A3 (A2 ?_)
   refine A5 rfl ?_
   refine B3 rfl ?_
   refine A4 ?_
   refine B8 ?_
   exact E4 rfl (B7 rfl (by first | exact congrArg AV.int (AW9 hx (by simpa using h17) hinv.2).symm | exact congrArg AV.int (AX0 fun j x hx => hinv.2 j x (Nat.lt_of_lt_of_le (List.getElem?_eq_some_iff.1 hx).1 hge) hx).symm))
  intro h17
  refine C1 (A2 ?_)
  refine A1 rfl (F1 rfl (A0 rfl) B4 (by first | omega | (simp only [D4, B0, szR] at *; omega))) ?_
  refine A5 rfl ?_
  refine A4 ?_
  refine I0 i (i + 1) ?_ ?_ (S3 1 ⟨rfl, rfl, rfl, rfl, trivial⟩)
  ·exact ⟨by omega, fun j y hj hy => if hji : j < i then hinv.2 j y hji hy else (by have e : j = i := (by omega); subst e; rw [hx] at hy; injection hy with hy; subst hy; simpa using h17)⟩
  omega
 intro h10
 have k10 := of_decide_eq_false h10; try simp only [A6] at k10
 have hge : l.length ≤ i := by omega
 refine F5 ?_
 refine A3 (A2 ?_)
 refine A1 rfl (A9 rfl B4) ?_
 refine A4 ?_
 refine B8 ?_
 exact E4 rfl (B7 rfl (by first | exact congrArg AV.int (AW9 hx (by simpa using h17) hinv.2).symm | exact congrArg AV.int (AX0 fun j x hx => hinv.2 j x (Nat.lt_of_lt_of_le (List.getElem?_eq_some_iff.1 hx).1 hge) hx).symm))
theorem AF5 (l : List TCell) (k : Str) (ho : CellsOk l) (hs : sizeL TCell.size l ≤ 4194304) : FSpec Tryz.prog 127 [AV.list 2 (l.map TCell.cs), AV.str k] (AV.int (lastTime l k)) := by
 have hl : l.length ≤ 4194304 := Nat.le_trans L1 hs
 refine D3 Tryz.func127 rfl Tryz.ntmps127 rfl ?_
 refine A3 (A2 ?_)
 refine A1 rfl (A9 rfl B4) ?_
 refine A4 (A3 (A2 ?_))
 refine A5 rfl ?_
 refine A5 rfl ?_
 refine A1 rfl (E1 rfl Tryz.call180 rfl (AR0 _ _) (A8 (A0 rfl) (A8 (A0 rfl) C7))) ?_
 refine B3 rfl ?_
 refine A4 (A3 (A3 (A2 ?_)))
 refine A5 rfl ?_
 refine A1 rfl (G0 rfl (A0 rfl) B4) ?_
 refine A4 ?_
 refine C0 (A0 rfl) ?_ ?_
 ·intro h10
  have k10 := of_decide_eq_true h10; try simp only [A6] at k10
  have hn : findC l k = none := Ag2 k10
  have he : lastTime l k = 0 := by unfold lastTime; rw [hn]
  rw [he]
  refine A3 (A2 ?_)
  refine A1 rfl (A9 rfl B4) ?_
  refine A4 ?_
  refine B8 ?_
  exact E4 rfl (B7 rfl (by first | rfl | (refine congrArg AV.bool ?_; simp_all; done)))
 intro h10
 have k10 := of_decide_eq_false h10; try simp only [A6] at k10
 obtain ⟨p, c, hp, hc, hf⟩ := Ag3 k10
 rw [hp]
 obtain ⟨v, hv, hlv⟩ := AQ9 (ho.2 c (H4 hc))
 have hcl := p5 (Nat.le_trans (Q5 hc) hs)
 have hc1 := ho.2 c (H4 hc)
 have he : lastTime l k = v.Time := by unfold lastTime; rw [hf]; exact hlv
 rw [he]
 refine C1 (A3 ?_)
 refine H7 (by kernel_rfl) (by kernel_rfl) rfl ?_
 refine B5 rfl rfl (C2 rfl (A0 rfl)) ?_
 refine B5 rfl rfl (C2 rfl (A0 rfl)) ?_
 refine B5 rfl rfl (I9 rfl F0 E8 (A0 rfl) (A0 rfl) hc (by first | omega | (simp only [D4, B0, szR] at *; omega))) ?_
 refine B5 rfl rfl (Q2 rfl F2 rfl K2 (A0 rfl) rfl) ?_
 refine B5 rfl rfl (J5 rfl (A0 rfl) M0 rfl) ?_
 refine B5 rfl rfl (C2 rfl (A0 rfl)) ?_
 refine B5 rfl rfl (C2 rfl (A0 rfl)) ?_
 refine B5 rfl rfl (I9 rfl F0 E8 (A0 rfl) (A0 rfl) hc (by first | omega | (simp only [D4, B0, szR] at *; omega))) ?_
 refine B5 rfl rfl (Q2 rfl F2 rfl K2 (A0 rfl) rfl) ?_
 refine B5 rfl rfl (J5 rfl (A0 rfl) M0 rfl) ?_
 refine B5 rfl rfl (E9 rfl G5 (A0 rfl)) ?_
 refine B5 rfl rfl (P4 rfl (A0 rfl) B4 (by first | omega | (simp only [D4, B0, szR] at *; omega))) ?_
 refine B5 rfl rfl (I9 rfl G5 I4 (A0 rfl) (A0 rfl) hv (by first | omega | (simp only [D4, B0, szR] at *; omega))) ?_
 refine B5 rfl rfl (Q2 rfl F7 rfl B9 (A0 rfl) rfl) ?_
 refine B5 rfl rfl (J5 rfl (A0 rfl) D2 rfl) ?_
 refine B5 rfl rfl (A9 rfl (A0 rfl)) ?_
 refine O5 ?_
 refine B8 ?_
 exact E4 rfl (B7 rfl (by first | rfl | (refine congrArg AV.bool ?_; simp_all; done)))
end Go.Proofs.YtkegepoihkhihaaGreat

namespace Go.AV
section
variable {P : Program} {G : Nat → Prop} {n : Nat} {own : List Own} {o : Oper}
def OwnC (sel : List Own) : Own → Own → Prop
  | .box b t cs, .box b' t' cs' => b = b' ∧ t = t' ∧ LendC sel cs cs'
  | .arr v t sz es, .arr v' t' sz' es' => v = v' ∧ t = t' ∧ sz = sz' ∧ LendE sel es es'
  | .frz b t cs, .frz b' t' cs' => b = b' ∧ t = t' ∧ LendC sel cs cs'
  | .tab T, .tab T' => T = T'
  | _, _ => False
def OwnsC (sel own own' : List Own) : Prop := own.length = own'.length ∧ ∀ (i : Nat) (q q' : Own), own[i]? = some q → own'[i]? = some q' → OwnC sel q q'
theorem oc_blk {sel : List Own} {q q' : Own} (h : OwnC sel q q') : Own.blk q = Own.blk q' := by
  cases q <;> cases q' <;> unfold OwnC at h
  · exact congrArg some h.1
  · exact h.elim
  · exact h.elim
  · exact h.elim
  · exact h.elim
  · exact congrArg Value.ownBlock h.1
  · exact h.elim
  · exact h.elim
  · exact h.elim
  · exact h.elim
  · exact congrArg some h.1
  · exact h.elim
  · exact h.elim
  · exact h.elim
  · exact h.elim
  · rfl
theorem oc_map {sel a b : List Own} (h : OwnsC sel a b) : a.map Own.blk = b.map Own.blk := by
  refine List.ext_getElem? fun i => ?_
  rw [List.getElem?_map, List.getElem?_map]
  cases ha : a[i]? with
  | none =>
    have : b[i]? = none := by rw [List.getElem?_eq_none_iff] at ha ⊢; rw [← h.1]; exact ha
    rw [this]
  | some q =>
    have hi : i < b.length := by rw [← h.1]; exact (List.getElem?_eq_some_iff.1 ha).1
    rw [List.getElem?_eq_getElem hi]
    exact congrArg some (oc_blk (h.2 i q _ ha (List.getElem?_eq_getElem hi)))
theorem oc_fm {sel a b : List Own} (h : OwnsC sel a b) : a.filterMap Own.blk = b.filterMap Own.blk := by
  have := congrArg (List.filterMap id) (oc_map h)
  rwa [List.filterMap_map, List.filterMap_map] at this
theorem AC8 {sel : List Own} {xs ys : List AV} {w0 : World} {R0 R : RHeap} {w : World} {vs : List Value} (hc : Core G w0 R0 sel R w) (h : DenC R vs xs) (k : LendC sel xs ys) : DenC (lend sel w R) vs ys :=
  ⟨h.1.trans k.1, fun i v y hv hy => by
    have hi : i < xs.length := by rw [k.1]; exact (List.getElem?_eq_some_iff.1 hy).1
    have hx := List.getElem?_eq_getElem hi
    obtain ⟨h1, h2⟩ := h.2 i v _ hv hx
    exact ⟨k.2 i _ y hx hy G w0 R0 R w v hc h1, h2⟩⟩
theorem Aj1 {sel rest rest' : List Own} {w0 : World} {R0 R : RHeap} {w : World} (h : Core G w0 R0 (sel ++ rest) R w) (hG : ∀ b, G b → b ∈ rest.filterMap Own.blk) (hl : OwnsC sel rest rest') : Core G w0 R0 rest' (lend sel w R) w := by
  have hb := AJ6 h hG
  have hs := S6 h
  refine ⟨hb.os, hb.tape, hb.output, hb.size, hb.block, hb.rle, hb.rold, fun q' hq' => ?_, fun q' hq' b hqb => ?_, ?_⟩
  · obtain ⟨i, hi⟩ := List.getElem?_of_mem hq'
    have hir : i < rest.length := by rw [hl.1]; exact (List.getElem?_eq_some_iff.1 hi).1
    have hr := List.getElem?_eq_getElem hir
    have hm := H4 hr
    have hoc := hl.2 i _ q' hr hi
    have k1 := hb.owned _ hm
    have k2 := h.owned _ (List.mem_append_right _ hm)
    revert hoc k1 k2
    generalize rest[i] = q
    intro hoc k1 k2
    cases q <;> cases q' <;> unfold OwnC at hoc
    · obtain ⟨rfl, rfl, hc⟩ := hoc
      obtain ⟨_, vs, hv, hd⟩ := k2
      exact ⟨k1.1, vs, hv, AC8 hs hd hc⟩
    · exact hoc.elim
    · exact hoc.elim
    · exact hoc.elim
    · exact hoc.elim
    · obtain ⟨rfl, rfl, rfl, hc⟩ := hoc
      obtain ⟨_, hlen, xs, hx, hd⟩ := k2
      refine ⟨k1.1, fun e he => ?_, xs, ?_, AC8 hs hd (AM0 hc)⟩
      · obtain ⟨j, hj⟩ := List.getElem?_of_mem he
        have hje := List.getElem?_eq_getElem (show j < _ from hc.1.symm ▸ (List.getElem?_eq_some_iff.1 hj).1)
        rw [← (hc.2 j _ e hje hj).1]
        exact hlen _ (H4 hje)
      · rw [← hc.1]; exact hx
    · exact hoc.elim
    · exact hoc.elim
    · exact hoc.elim
    · exact hoc.elim
    · obtain ⟨rfl, rfl, hc⟩ := hoc
      obtain ⟨_, vs, hv, hd⟩ := k2
      exact ⟨k1.1, vs, hv, AC8 hs hd hc⟩
    · exact hoc.elim
    · exact hoc.elim
    · exact hoc.elim
    · exact hoc.elim
    · exact hoc ▸ k1
  · have hm : (some b) ∈ rest'.map Own.blk := List.mem_map.2 ⟨q', hq', hqb⟩
    rw [← oc_map hl] at hm
    obtain ⟨q, hq, hqb2⟩ := List.mem_map.1 hm
    exact hb.fresh q hq b hqb2
  · rw [← oc_fm hl]; exact hb.sep
theorem oc_refl {sel : List Own} (q : Own) : OwnC sel q q := by
  cases q with
  | box b t cs => exact ⟨rfl, rfl, AE1⟩
  | arr v t sz es => exact ⟨rfl, rfl, rfl, W8⟩
  | frz b t cs => exact ⟨rfl, rfl, AE1⟩
  | tab T => exact rfl
theorem oc_set {sel l : List Own} {i : Nat} {q q' : Own} (hi : l[i]? = some q) (hc : OwnC sel q q') : OwnsC sel l (l.set i q') := ⟨by simp, fun j x y hx hy => by
  by_cases h : i = j
  · subst h
    rw [List.getElem?_set_self (List.getElem?_eq_some_iff.1 hi).1] at hy
    rw [hi] at hx
    injection hx with hx; injection hy with hy; subst hx; subst hy; exact hc
  · rw [List.getElem?_set_ne h, hx] at hy
    injection hy with hy; subst hy; exact oc_refl _⟩
theorem le_sealO {env : List (Nat × AV)} {sel rest : List Own} {q : Own} (is : List Nat) (i : Nat) (q' : Own) (hp : pick own is = (sel, rest)) (hi : rest[i]? = some q) (hc : OwnC sel q q') (hG : ∀ b, G b → b ∈ rest.filterMap Own.blk) : Le G n ⟨own, env⟩ ⟨rest.set i q', env⟩ := fun w0 R0 R a w ⟨h1, h2, h3⟩ => by
  have hk := Z8 h1 hp
  exact ⟨lend sel w R, X9 (S6 hk), Aj1 hk hG (oc_set hi hc), fun t z hz => z.mono (X9 (S6 hk)) (h2 t z hz), h3⟩
section
variable {T X : Type} {ocs : T → X → List AV} {cs : T → List AV} {ow : T → X → List Own}
end
end
end Go.AV

namespace Go.AV
section
variable {P : Program} {G : Nat → Prop} {n : Nat} {own : List Own} {o : Oper} {E : EnvF}
@[reducible] def byteC (b : UInt8) : List AV := [AV.ik .u8 b.toNat]
end
end Go.AV

namespace Go.Proofs.YtkegepoihkhihaaGreat
open Go Go.AV Go.M
attribute [local irreducible] OpW OpA OpS AWP FSpec ESpec RetOk RvDen Le Ev GuardIs
theorem AX2 (a : TWrite) (left : Int) (hok : a.ok) (h0 : 0 ≤ left) (h1 : left ≤ 1048576) : FSpec Tryz.prog 182 [AV.agg a.cs, AV.int left] (AV.int (szR a.size left)) := by
 obtain ⟨oKey, oVal⟩ := hok
 refine D3 Tryz.func182 rfl Tryz.ntmps182 rfl ?_
 refine A3 (A2 ?_)
 refine I8 rfl rfl rfl rfl (A0 rfl) ?_
 intro b2
 refine A1 rfl (A9 rfl B4) ?_
 refine A4 (A3 (A2 ?_))
 refine A5 rfl ?_
 refine A1 rfl (B2 0 rfl T3 rfl C6 (A0 rfl) rfl) ?_
 refine A1 rfl (B1 0 rfl (A0 rfl) rfl E5 rfl) ?_
 refine A1 rfl (Y7 rfl I3 (A0 rfl)) ?_
 refine A1 rfl (P4 rfl (A0 rfl) (A0 rfl) (by first | omega | (simp only [D4, B0, szR] at *; omega))) ?_
 refine B3 rfl ?_
 refine A4 (A3 (A3 (A2 ?_)))
 refine A5 rfl ?_
 refine A1 rfl (G0 rfl (A0 rfl) B4) ?_
 refine A4 ?_
 refine C0 (A0 rfl) ?_ ?_
 ·intro h11
  have k11 := of_decide_eq_true h11; try simp only [A6] at k11
  refine A3 (A2 ?_)
  refine A1 rfl (A9 rfl B4) ?_
  refine A4 ?_
  refine B8 ?_
  exact E4 rfl (B7 rfl (by exact congrArg AV.int (by simp only [szR, TWrite.size, decide_eq_true_eq, decide_eq_false_iff_not] at *; omega)))
 intro h11
 have k11 := of_decide_eq_false h11; try simp only [A6] at k11
 refine C1 (A3 (A2 ?_))
 refine A5 rfl ?_
 refine A1 rfl (B2 1 rfl T3 rfl C6 (A0 rfl) rfl) ?_
 refine A1 rfl (B1 0 rfl (A0 rfl) rfl E5 rfl) ?_
 refine A1 rfl (Y7 rfl I3 (A0 rfl)) ?_
 refine A1 rfl (P4 rfl (A0 rfl) (A0 rfl) (by first | omega | (simp only [D4, B0, szR] at *; omega))) ?_
 refine B3 rfl ?_
 refine A4 (A3 (A3 (A2 ?_)))
 refine A5 rfl ?_
 refine A1 rfl (G0 rfl (A0 rfl) B4) ?_
 refine A4 ?_
 refine C0 (A0 rfl) ?_ ?_
 ·intro h18
  have k18 := of_decide_eq_true h18; try simp only [A6] at k18
  refine A3 (A2 ?_)
  refine A1 rfl (A9 rfl B4) ?_
  refine A4 ?_
  refine B8 ?_
  exact E4 rfl (B7 rfl (by exact congrArg AV.int (by simp only [szR, TWrite.size, decide_eq_true_eq, decide_eq_false_iff_not] at *; omega)))
 intro h18
 have k18 := of_decide_eq_false h18; try simp only [A6] at k18
 refine C1 (A3 (A2 ?_))
 refine A5 rfl ?_
 refine B3 rfl ?_
 refine A4 ?_
 refine B8 ?_
 exact E4 rfl (B7 rfl (by exact congrArg AV.int (by simp only [szR, TWrite.size, decide_eq_true_eq, decide_eq_false_iff_not] at *; omega)))
theorem AC9 (a : TWrite) (hs : a.size ≤ 1048576) : FSpec Tryz.prog 184 [AV.agg a.cs] (AV.agg a.cs) := by
 unfold TWrite.size at hs
 refine D3 Tryz.func184 rfl Tryz.ntmps184 rfl ?_
 refine A3 (A2 ?_)
 refine I8 rfl rfl rfl rfl (A0 rfl) ?_
 intro b1
 refine I1 rfl rfl rfl rfl Tryz.zeroValue101 rfl ?_
 intro b2
 refine A4 (A3 (A2 ?_))
 refine I1 rfl rfl rfl rfl Tryz.zeroValue101 rfl ?_
 intro b3
 refine A4 (A3 (A2 ?_))
 refine A1 rfl (B2 0 rfl T3 rfl C6 (A0 rfl) rfl) ?_
 refine A1 rfl (B1 2 rfl (A0 rfl) rfl E5 rfl) ?_
 refine A1 rfl (B2 0 rfl G2 rfl C6 (A0 rfl) rfl) ?_
 refine J6 0 rfl rfl rfl (A0 rfl) (A0 rfl) (Q7 _) rfl C6 rfl ?_
 refine A4 (A3 (A2 ?_))
 refine A1 rfl (B2 1 rfl T3 rfl C6 (A0 rfl) rfl) ?_
 refine A1 rfl (B1 2 rfl (A0 rfl) rfl E5 rfl) ?_
 refine A1 rfl (B2 1 rfl G2 rfl C6 (A0 rfl) rfl) ?_
 refine J6 0 rfl rfl rfl (A0 rfl) (A0 rfl) (Q7 _) rfl C6 rfl ?_
 refine A4 (A3 (A2 ?_))
 refine A1 rfl (B2 2 rfl T3 rfl F8 (A0 rfl) rfl) ?_
 refine A1 rfl (B1 2 rfl (A0 rfl) rfl I5 rfl) ?_
 refine A1 rfl (B2 2 rfl G2 rfl F8 (A0 rfl) rfl) ?_
 refine J6 0 rfl rfl rfl (A0 rfl) (A0 rfl) (c4 _) rfl F8 rfl ?_
 refine A4 (A3 (A2 ?_))
 refine A1 rfl (K8 0 rfl (A0 rfl) rfl P1 G1 rfl) ?_
 refine H9 1 rfl rfl rfl (A0 rfl) (A0 rfl) (J4 _) rfl G1 rfl ?_
 refine A4 ?_
 refine B8 ?_
 exact E4 rfl (V2 (ys := _) 1 rfl rfl P1 G1 rfl)
theorem AX3 (a b : TWrite) : FSpec Tryz.prog 192 [AV.agg a.cs, AV.agg b.cs] (AV.bool (decide (a = b))) := by
 refine D3 Tryz.func192 rfl Tryz.ntmps192 rfl ?_
 refine A3 (A2 ?_)
 refine I8 rfl rfl rfl rfl (A0 rfl) ?_
 intro b2
 refine I8 rfl rfl rfl rfl (A0 rfl) ?_
 intro b3
 refine A1 rfl (A9 rfl E3) ?_
 refine A4 (A3 (A3 (A2 ?_)))
 refine A1 rfl (B2 0 rfl G2 rfl C6 (A0 rfl) rfl) ?_
 refine A1 rfl (B1 1 rfl (A0 rfl) rfl E5 rfl) ?_
 refine A1 rfl (B2 0 rfl G2 rfl C6 (A0 rfl) rfl) ?_
 refine A1 rfl (B1 0 rfl (A0 rfl) rfl E5 rfl) ?_
 refine A1 rfl (Y6 rfl (A0 rfl) (A0 rfl)) ?_
 refine A4 ?_
 refine C0 (A0 rfl) ?_ ?_
 ·intro h9
  refine A3 (A2 ?_)
  refine A1 rfl (A9 rfl E3) ?_
  refine A4 ?_
  refine B8 ?_
  exact E4 rfl (B7 rfl (by exact congrArg AV.bool (by cases a; cases b; simp_all)))
 intro h9
 refine C1 (A3 (A3 (A2 ?_)))
 refine A1 rfl (B2 1 rfl G2 rfl C6 (A0 rfl) rfl) ?_
 refine A1 rfl (B1 1 rfl (A0 rfl) rfl E5 rfl) ?_
 refine A1 rfl (B2 1 rfl G2 rfl C6 (A0 rfl) rfl) ?_
 refine A1 rfl (B1 0 rfl (A0 rfl) rfl E5 rfl) ?_
 refine A1 rfl (Y6 rfl (A0 rfl) (A0 rfl)) ?_
 refine A4 ?_
 refine C0 (A0 rfl) ?_ ?_
 ·intro h14
  refine A3 (A2 ?_)
  refine A1 rfl (A9 rfl E3) ?_
  refine A4 ?_
  refine B8 ?_
  exact E4 rfl (B7 rfl (by exact congrArg AV.bool (by cases a; cases b; simp_all)))
 intro h14
 refine C1 (A3 (A3 (A2 ?_)))
 refine A1 rfl (B2 2 rfl G2 rfl F8 (A0 rfl) rfl) ?_
 refine A1 rfl (B1 1 rfl (A0 rfl) rfl I5 rfl) ?_
 refine A1 rfl (B2 2 rfl G2 rfl F8 (A0 rfl) rfl) ?_
 refine A1 rfl (B1 0 rfl (A0 rfl) rfl I5 rfl) ?_
 refine A1 rfl (m1 rfl N5 (A0 rfl) (A0 rfl)) ?_
 refine A4 ?_
 refine C0 (A0 rfl) ?_ ?_
 ·intro h19
  refine A3 (A2 ?_)
  refine A1 rfl (A9 rfl E3) ?_
  refine A4 ?_
  refine B8 ?_
  exact E4 rfl (B7 rfl (by exact congrArg AV.bool (by cases a; cases b; simp_all)))
 intro h19
 refine C1 (A3 (A2 ?_))
 refine A1 rfl (A9 rfl E3) ?_
 refine A4 ?_
 refine B8 ?_
 exact E4 rfl (B7 rfl (by exact congrArg AV.bool (by cases a; cases b; simp_all)))
theorem AN5 (l : List Str) (left : Int) (hok : (∀ x ∈ l, x.length ≤ 9223372036854775807)) (h0 : 0 ≤ left) (h1 : left ≤ 1048576) : FSpec Tryz.prog 131 [strs l, AV.int left] (AV.int (szR (sizeL (fun x => x.length) l) left)) := by
 refine D3 Tryz.func131 rfl Tryz.ntmps131 rfl ?_
 refine N7 (t := 0) rfl fun hl => ?_
 try simp only [A6] at hl
 refine A3 (A2 ?_)
 refine A1 rfl (A9 rfl B4) ?_
 refine A4 (A3 (A2 ?_))
 refine A5 rfl ?_
 refine A5 rfl ?_
 refine A1 rfl (E9 rfl D5 (A0 rfl)) ?_
 refine A1 rfl (P4 rfl (A0 rfl) (A0 rfl) (by first | omega | (simp only [D4, B0, szR] at *; omega))) ?_
 refine B3 rfl ?_
 refine A4 (A3 (A3 (A2 ?_)))
 refine A5 rfl ?_
 refine A1 rfl (G0 rfl (A0 rfl) B4) ?_
 refine A4 ?_
 refine C0 (A0 rfl) ?_ ?_
 ·intro h11
  have k11 := of_decide_eq_true h11; try simp only [A6] at k11
  refine A3 (A2 ?_)
  refine A1 rfl (A9 rfl B4) ?_
  refine A4 ?_
  refine B8 ?_
  exact E4 rfl (B7 rfl (by exact congrArg AV.int (by simp only [szR, sizeL, A6, decide_eq_true_eq, decide_eq_false_iff_not] at *; omega)))
 intro h11
 have k11 := of_decide_eq_false h11; try simp only [A6] at k11
 refine C1 (A3 (A3 (A2 ?_)))
 refine A1 rfl (A9 rfl B4) ?_
 refine A4 (C4 ?_)
 refine J8 [(0, _)] _ (fun (i : Nat) (b : Int) => i ≤ l.length ∧ b = left - l.length - (((l.take i).map (fun x => x.length)).sum : Nat) ∧ 0 ≤ b) (fun (i : Nat) (b : Int) => []) (fun (i : Nat) (b : Int) => [(1, AV.int b), (5, AV.int i)]) (fun (i : Nat) (b : Int) => l.length - i) (0) (left - ((l.map fun x => [AV.str x]).length : Int)) ?_ (H1 ⟨rfl, rfl, rfl, trivial⟩) ?_
 ·exact ⟨Nat.zero_le _, by simp, by simp only [A6]; omega⟩
 intro i b hinv
 refine A3 (A3 (A2 ?_))
 refine A5 rfl ?_
 refine A5 rfl ?_
 refine A1 rfl (E9 rfl D5 (A0 rfl)) ?_
 refine A1 rfl (G0 rfl (A0 rfl) (A0 rfl)) ?_
 refine A4 ?_
 refine C0 (A0 rfl) ?_ ?_
 ·intro h15
  have k15 := of_decide_eq_true h15; try simp only [A6] at k15
  have hlt : i < l.length := by omega
  obtain ⟨x, hx⟩ := get_some hlt
  have e2 := o8 (fun x => x.length) l i x hx
  have hokx := hok x (H4 hx)
  refine C1 (A3 (C4 (A3 (A2 ?_))))
  refine A5 rfl ?_
  refine A5 rfl ?_
  refine A5 rfl ?_
  refine A1 rfl (O7 rfl D5 C6 (A0 rfl) (A0 rfl) (by omega) (by simp only [Int.toNat_natCast, List.getElem?_map, hx, Option.map_some]; try rfl)) ?_
  refine A1 rfl (J5 rfl (A0 rfl) E5 rfl) ?_
  refine A1 rfl (Y7 rfl I3 (A0 rfl)) ?_
  refine A1 rfl (P4 rfl (A0 rfl) (A0 rfl) (by first | omega | (simp only [D4, B0, szR] at *; omega))) ?_
  refine B3 rfl ?_
  refine A4 (A3 (A2 ?_))
  refine A5 rfl ?_
  refine A1 rfl (G0 rfl (A0 rfl) B4) ?_
  refine A4 ?_
  refine C0 (A0 rfl) ?_ ?_
  ·intro h26
   have k26 := of_decide_eq_true h26; try simp only [A6] at k26
   refine A3 (A2 ?_)
   refine A1 rfl (A9 rfl B4) ?_
   refine A4 ?_
   refine B8 ?_
   exact E4 rfl (B7 rfl (by exact congrArg AV.int (by simp only [szR, sizeL, A6, decide_eq_true_eq, decide_eq_false_iff_not] at *; omega)))
  intro h26
  have k26 := of_decide_eq_false h26; try simp only [A6] at k26
  refine C1 (A2 ?_)
  refine A5 rfl ?_
  refine A1 rfl (F1 rfl (A0 rfl) B4 (by first | omega | (simp only [D4, B0, szR] at *; omega))) ?_
  refine B3 rfl ?_
  refine A4 ?_
  refine J2 i b (i + 1) ((b - (x.length : Int))) ?_ ?_ (H1 ⟨rfl, rfl, rfl, trivial⟩)
  ·exact ⟨by omega, by have e1 := j7 (fun x => x.length) l i x hx; simp only [szR, decide_eq_false_iff_not] at *; omega, by omega⟩
  omega
 intro h15
 have k15 := of_decide_eq_false h15; try simp only [A6] at k15
 have hge : l.length ≤ i := by omega
 have e3 : ((l.take i).map (fun x => x.length)).sum = (l.map (fun x => x.length)).sum := by rw [List.take_of_length_le hge]
 refine F5 ?_
 refine A3 (A2 ?_)
 refine A5 rfl ?_
 refine B3 rfl ?_
 refine A4 ?_
 refine B8 ?_
 exact E4 rfl (B7 rfl (by exact congrArg AV.int (by simp only [szR, sizeL, A6, decide_eq_true_eq, decide_eq_false_iff_not] at *; omega)))
theorem AN6 (l : List Str) (hs : sizeL (fun x => x.length) l ≤ 1048576) : FSpec Tryz.prog 134 [strs l] (strs l) := by
 have hsl : l.length ≤ 1048576 := Nat.le_trans L1 hs
 refine D3 Tryz.func134 rfl Tryz.ntmps134 rfl ?_
 refine A3 (A2 ?_)
 refine A1 rfl (A9 rfl (c3 (sz := 1))) ?_
 refine A4 (A3 (A2 ?_))
 refine A5 rfl ?_
 refine A1 rfl (E9 rfl D5 (A0 rfl)) ?_
 refine V7 (by' := 16) rfl rfl rfl rfl D5 Tryz.type9 rfl rfl rfl rfl rfl rfl (A0 rfl) (A0 rfl) (by simp only [A6]; omega) (by simp only [A6]; omega) ?_
 intro v7
 refine B3 rfl ?_
 refine A4 (A3 (A3 (A2 ?_)))
 refine A1 rfl (A9 rfl B4) ?_
 refine A4 (C4 ?_)
 refine H2 [(0, _), (2, _), (3, _)] _ (fun (i : Nat) => i ≤ l.length) (fun (i : Nat) => [.arr v7 9 1 ((l.take i).map (fun x => [AV.str x]) ++ List.replicate (l.length - i) [AV.str []])]) (fun (i : Nat) => [(4, AV.int i)]) (fun (i : Nat) => l.length - i) (0) ?_ (K7 (by simp only [A6]; rfl) ⟨rfl, rfl, rfl, rfl, trivial⟩) ?_
 ·exact Nat.zero_le _
 intro i hinv
 refine A3 (A3 (A2 ?_))
 refine A5 rfl ?_
 refine A5 rfl ?_
 refine A1 rfl (E9 rfl D5 (A0 rfl)) ?_
 refine A1 rfl (G0 rfl (A0 rfl) (A0 rfl)) ?_
 refine A4 ?_
 refine C0 (A0 rfl) ?_ ?_
 ·intro h11
  have k11 := of_decide_eq_true h11; try simp only [A6] at k11
  have hlt : i < l.length := by omega
  obtain ⟨x, hx⟩ := get_some hlt
  refine C1 (A3 (C4 (A2 ?_)))
  refine A5 rfl ?_
  refine A5 rfl ?_
  refine A5 rfl ?_
  refine A5 rfl ?_
  refine A1 rfl (O7 rfl D5 C6 (A0 rfl) (A0 rfl) (by omega) (by simp only [Int.toNat_natCast, List.getElem?_map, hx, Option.map_some]; try rfl)) ?_
  refine A1 rfl (J5 rfl (A0 rfl) E5 rfl) ?_
  refine A1 rfl (L0 0 rfl D5 C6 (A0 rfl) rfl (A0 rfl) (by omega) (by rw [P6 hinv]; omega)) ?_
  refine R8 0 rfl rfl rfl (A0 rfl) (A0 rfl) (Q7 _) rfl C6 rfl (by rw [P6 hinv]; omega) ?_
  refine A4 (A2 ?_)
  refine A5 rfl ?_
  refine A1 rfl (F1 rfl (A0 rfl) B4 (by first | omega | (simp only [D4, B0, szR] at *; omega))) ?_
  refine B3 rfl ?_
  refine A4 ?_
  refine I0 i (i + 1) ?_ ?_ (K7 (by exact congrArg (fun z => [Own.arr v7 9 1 z]) (U9 hx)) ⟨rfl, rfl, rfl, rfl, trivial⟩)
  ·omega
  omega
 intro h11
 have k11 := of_decide_eq_false h11; try simp only [A6] at k11
 have hge : l.length ≤ i := by omega
 rw [V0 hge]
 refine F5 ?_
 refine A3 (A2 ?_)
 refine A5 rfl ?_
 refine B3 rfl ?_
 refine A4 ?_
 refine B8 ?_
 refine e6 0 2 rfl rfl ?_
 exact E4 rfl (B7 rfl (by first | rfl | (refine congrArg AV.bool ?_; simp_all; done)))
theorem AN7 (a b : List Str) : FSpec Tryz.prog 147 [strs a, strs b] (AV.bool (decide (a = b))) := by
 refine D3 Tryz.func147 rfl Tryz.ntmps147 rfl ?_
 refine N7 (t := 0) rfl fun hl => ?_
 try simp only [A6] at hl
 refine A3 (A2 ?_)
 refine A1 rfl (A9 rfl E3) ?_
 refine A4 (A3 (A3 (A2 ?_)))
 refine A5 rfl ?_
 refine A1 rfl (E9 rfl D5 (A0 rfl)) ?_
 refine A5 rfl ?_
 refine A1 rfl (E9 rfl D5 (A0 rfl)) ?_
 refine A1 rfl (R6 rfl (A0 rfl) (A0 rfl)) ?_
 refine A4 ?_
 refine C0 (A0 rfl) ?_ ?_
 ·intro h10
  have k10 := N6 h10; try simp only [A6] at k10
  have hab : a ≠ b := by intro hc; subst hc; exact k10 rfl
  refine A3 (A2 ?_)
  refine A1 rfl (A9 rfl E3) ?_
  refine A4 ?_
  refine B8 ?_
  exact E4 rfl (B7 rfl (by exact congrArg AV.bool (by simp [hab])))
 intro h10
 have k10 := J1 h10; try simp only [A6] at k10
 have heq : a.length = b.length := by omega
 refine C1 (A3 (A3 (A2 ?_)))
 refine A1 rfl (A9 rfl B4) ?_
 refine A4 (C4 ?_)
 refine H2 [(0, _), (1, _)] _ (fun (i : Nat) => i ≤ a.length ∧ a.take i = b.take i) (fun (i : Nat) => []) (fun (i : Nat) => [(5, AV.int i)]) (fun (i : Nat) => a.length - i) (0) ?_ (H1 ⟨rfl, rfl, rfl, trivial⟩) ?_
 ·exact ⟨Nat.zero_le _, rfl⟩
 intro i hinv
 refine A3 (A3 (A2 ?_))
 refine A5 rfl ?_
 refine A5 rfl ?_
 refine A1 rfl (E9 rfl D5 (A0 rfl)) ?_
 refine A1 rfl (G0 rfl (A0 rfl) (A0 rfl)) ?_
 refine A4 ?_
 refine C0 (A0 rfl) ?_ ?_
 ·intro h14
  have k14 := of_decide_eq_true h14; try simp only [A6] at k14
  have hlt : i < a.length := by omega
  obtain ⟨x, hx⟩ := get_some hlt
  obtain ⟨y, hy⟩ := get_some (show i < b.length by omega)
  refine C1 (A3 (C4 (A3 ?_)))
  refine H7 (by kernel_rfl) (by kernel_rfl) rfl ?_
  refine B5 rfl rfl (C2 rfl (A0 rfl)) ?_
  refine B5 rfl rfl (C2 rfl (A0 rfl)) ?_
  refine B5 rfl rfl (O7 rfl D5 C6 (A0 rfl) (A0 rfl) (by omega) (by simp only [Int.toNat_natCast, List.getElem?_map, hx, Option.map_some]; try rfl)) ?_
  refine B5 rfl rfl (J5 rfl (A0 rfl) E5 rfl) ?_
  refine B5 rfl rfl (C2 rfl (A0 rfl)) ?_
  refine B5 rfl rfl (C2 rfl (A0 rfl)) ?_
  refine B5 rfl rfl (O7 rfl D5 C6 (A0 rfl) (A0 rfl) (by omega) (by simp only [Int.toNat_natCast, List.getElem?_map, hy, Option.map_some]; try rfl)) ?_
  refine B5 rfl rfl (J5 rfl (A0 rfl) E5 rfl) ?_
  refine B5 rfl rfl (Y6 rfl (A0 rfl) (A0 rfl)) ?_
  refine O5 ?_
  refine C0 (A0 rfl) ?_ ?_
  ·intro h25
   have hab : a ≠ b := by intro hc; subst hc; rw [hx] at hy; injection hy with hy; subst hy; simp at h25
   refine A3 (A2 ?_)
   refine A1 rfl (A9 rfl E3) ?_
   refine A4 ?_
   refine B8 ?_
   exact E4 rfl (B7 rfl (by exact congrArg AV.bool (by simp [hab])))
  intro h25
  refine C1 (A2 ?_)
  refine A5 rfl ?_
  refine A1 rfl (F1 rfl (A0 rfl) B4 (by first | omega | (simp only [D4, B0, szR] at *; omega))) ?_
  refine B3 rfl ?_
  refine A4 ?_
  refine I0 i (i + 1) ?_ ?_ (H1 ⟨rfl, rfl, rfl, trivial⟩)
  ·exact ⟨by omega, V5 hinv.2 hx (by rw [hy]; congr 1; simp_all)⟩
  omega
 intro h14
 have k14 := of_decide_eq_false h14; try simp only [A6] at k14
 have hge : a.length ≤ i := by omega
 have hab : a = b := Y1 heq hinv.2 hge
 refine F5 ?_
 refine A3 (A2 ?_)
 refine A1 rfl (A9 rfl E3) ?_
 refine A4 ?_
 refine B8 ?_
 exact E4 rfl (B7 rfl (by exact congrArg AV.bool (by simp [hab])))
theorem AS4 (l : List TWrite) (left : Int) (hok : (∀ x ∈ l, x.ok)) (h0 : 0 ≤ left) (h1 : left ≤ 1048576) : FSpec Tryz.prog 132 [AV.list 3 (l.map TWrite.cs), AV.int left] (AV.int (szR (sizeL TWrite.size l) left)) := by
 refine D3 Tryz.func132 rfl Tryz.ntmps132 rfl ?_
 refine N7 (t := 0) rfl fun hl => ?_
 try simp only [A6] at hl
 refine A3 (A2 ?_)
 refine A1 rfl (A9 rfl B4) ?_
 refine A4 (A3 (A2 ?_))
 refine A5 rfl ?_
 refine A5 rfl ?_
 refine A1 rfl (E9 rfl O3 (A0 rfl)) ?_
 refine A1 rfl (P4 rfl (A0 rfl) (A0 rfl) (by first | omega | (simp only [D4, B0, szR] at *; omega))) ?_
 refine B3 rfl ?_
 refine A4 (A3 (A3 (A2 ?_)))
 refine A5 rfl ?_
 refine A1 rfl (G0 rfl (A0 rfl) B4) ?_
 refine A4 ?_
 refine C0 (A0 rfl) ?_ ?_
 ·intro h11
  have k11 := of_decide_eq_true h11; try simp only [A6] at k11
  refine A3 (A2 ?_)
  refine A1 rfl (A9 rfl B4) ?_
  refine A4 ?_
  refine B8 ?_
  exact E4 rfl (B7 rfl (by exact congrArg AV.int (by simp only [szR, sizeL, A6, decide_eq_true_eq, decide_eq_false_iff_not] at *; omega)))
 intro h11
 have k11 := of_decide_eq_false h11; try simp only [A6] at k11
 refine C1 (A3 (A3 (A2 ?_)))
 refine A1 rfl (A9 rfl B4) ?_
 refine A4 (C4 ?_)
 refine J8 [(0, _)] _ (fun (i : Nat) (b : Int) => i ≤ l.length ∧ b = left - l.length - (((l.take i).map TWrite.size).sum : Nat) ∧ 0 ≤ b) (fun (i : Nat) (b : Int) => []) (fun (i : Nat) (b : Int) => [(1, AV.int b), (5, AV.int i)]) (fun (i : Nat) (b : Int) => l.length - i) (0) (left - ((l.map fun x => TWrite.cs x).length : Int)) ?_ (H1 ⟨rfl, rfl, rfl, trivial⟩) ?_
 ·exact ⟨Nat.zero_le _, by simp, by simp only [A6]; omega⟩
 intro i b hinv
 refine A3 (A3 (A2 ?_))
 refine A5 rfl ?_
 refine A5 rfl ?_
 refine A1 rfl (E9 rfl O3 (A0 rfl)) ?_
 refine A1 rfl (G0 rfl (A0 rfl) (A0 rfl)) ?_
 refine A4 ?_
 refine C0 (A0 rfl) ?_ ?_
 ·intro h15
  have k15 := of_decide_eq_true h15; try simp only [A6] at k15
  have hlt : i < l.length := by omega
  obtain ⟨x, hx⟩ := get_some hlt
  have e2 := o8 TWrite.size l i x hx
  have hokx := hok x (H4 hx)
  refine C1 (A3 (C4 (A3 (A2 ?_))))
  refine A5 rfl ?_
  refine A5 rfl ?_
  refine A1 rfl (O7 rfl O3 W0 (A0 rfl) (A0 rfl) (by omega) (by simp only [Int.toNat_natCast, List.getElem?_map, hx, Option.map_some]; try rfl)) ?_
  refine A1 rfl (H8 rfl (A0 rfl) Tryz.isAgg219 W0) ?_
  refine A5 rfl ?_
  refine A1 rfl (E1 rfl Tryz.call182 rfl (AX2 _ _ (by assumption) (by first | omega | (simp only [D4, B0, szR] at *; omega)) (by first | omega | (simp only [D4, B0, szR] at *; omega))) (A8 (A0 rfl) (A8 (A0 rfl) C7))) ?_
  refine B3 rfl ?_
  refine A4 (A3 (A2 ?_))
  refine A5 rfl ?_
  refine A1 rfl (G0 rfl (A0 rfl) B4) ?_
  refine A4 ?_
  refine C0 (A0 rfl) ?_ ?_
  ·intro h25
   have k25 := of_decide_eq_true h25; try simp only [A6] at k25
   refine A3 (A2 ?_)
   refine A1 rfl (A9 rfl B4) ?_
   refine A4 ?_
   refine B8 ?_
   exact E4 rfl (B7 rfl (by exact congrArg AV.int (by simp only [szR, sizeL, A6, decide_eq_true_eq, decide_eq_false_iff_not] at *; omega)))
  intro h25
  have k25 := of_decide_eq_false h25; try simp only [A6] at k25
  refine C1 (A2 ?_)
  refine A5 rfl ?_
  refine A1 rfl (F1 rfl (A0 rfl) B4 (by first | omega | (simp only [D4, B0, szR] at *; omega))) ?_
  refine B3 rfl ?_
  refine A4 ?_
  refine J2 i b (i + 1) ((szR (TWrite.size x) b)) ?_ ?_ (H1 ⟨rfl, rfl, rfl, trivial⟩)
  ·exact ⟨by omega, by have e1 := j7 TWrite.size l i x hx; simp only [szR, decide_eq_false_iff_not] at *; omega, by omega⟩
  omega
 intro h15
 have k15 := of_decide_eq_false h15; try simp only [A6] at k15
 have hge : l.length ≤ i := by omega
 have e3 : ((l.take i).map TWrite.size).sum = (l.map TWrite.size).sum := by rw [List.take_of_length_le hge]
 refine F5 ?_
 refine A3 (A2 ?_)
 refine A5 rfl ?_
 refine B3 rfl ?_
 refine A4 ?_
 refine B8 ?_
 exact E4 rfl (B7 rfl (by exact congrArg AV.int (by simp only [szR, sizeL, A6, decide_eq_true_eq, decide_eq_false_iff_not] at *; omega)))
theorem AS5 (l : List TWrite) (hs : sizeL TWrite.size l ≤ 1048576) : FSpec Tryz.prog 135 [AV.list 3 (l.map TWrite.cs)] (AV.list 3 (l.map TWrite.cs)) := by
 have hsl : l.length ≤ 1048576 := Nat.le_trans L1 hs
 refine D3 Tryz.func135 rfl Tryz.ntmps135 rfl ?_
 refine A3 (A2 ?_)
 refine A1 rfl (A9 rfl (c3 (sz := 3))) ?_
 refine A4 (A3 (A2 ?_))
 refine A5 rfl ?_
 refine A1 rfl (E9 rfl O3 (A0 rfl)) ?_
 refine V7 (by' := 40) rfl rfl rfl rfl E7 Tryz.type101 rfl rfl rfl rfl rfl rfl (A0 rfl) (A0 rfl) (by simp only [A6]; omega) (by simp only [A6]; omega) ?_
 intro v7
 refine B3 rfl ?_
 refine A4 (A3 (A3 (A2 ?_)))
 refine A1 rfl (A9 rfl B4) ?_
 refine A4 (C4 ?_)
 refine H2 [(0, _), (2, _), (3, _)] _ (fun (i : Nat) => i ≤ l.length) (fun (i : Nat) => [.arr v7 101 3 ((l.take i).map TWrite.cs ++ List.replicate (l.length - i) [AV.str [], AV.str [], AV.bool false])]) (fun (i : Nat) => [(4, AV.int i)]) (fun (i : Nat) => l.length - i) (0) ?_ (K7 (by simp only [A6]; rfl) ⟨rfl, rfl, rfl, rfl, trivial⟩) ?_
 ·exact Nat.zero_le _
 intro i hinv
 refine A3 (A3 (A2 ?_))
 refine A5 rfl ?_
 refine A5 rfl ?_
 refine A1 rfl (E9 rfl O3 (A0 rfl)) ?_
 refine A1 rfl (G0 rfl (A0 rfl) (A0 rfl)) ?_
 refine A4 ?_
 refine C0 (A0 rfl) ?_ ?_
 ·intro h11
  have k11 := of_decide_eq_true h11; try simp only [A6] at k11
  have hlt : i < l.length := by omega
  obtain ⟨x, hx⟩ := get_some hlt
  have hsx : TWrite.size x ≤ 1048576 := Nat.le_trans (Q5 hx) hs
  refine C1 (A3 (C4 (A2 ?_)))
  refine A5 rfl ?_
  refine A5 rfl ?_
  refine A5 rfl ?_
  refine A5 rfl ?_
  refine A1 rfl (O7 rfl O3 W0 (A0 rfl) (A0 rfl) (by omega) (by simp only [Int.toNat_natCast, List.getElem?_map, hx, Option.map_some]; try rfl)) ?_
  refine A1 rfl (H8 rfl (A0 rfl) Tryz.isAgg219 W0) ?_
  refine A1 rfl (E1 rfl Tryz.call184 rfl (AC9 _ (by first | assumption | omega | (simp only [] at *; omega))) (A8 (A0 rfl) C7)) ?_
  refine A1 rfl (L0 0 rfl E7 G1 (A0 rfl) rfl (A0 rfl) (by omega) (by rw [P6 hinv]; omega)) ?_
  refine R8 0 rfl rfl rfl (A0 rfl) (A0 rfl) (J4 _) rfl G1 rfl (by rw [P6 hinv]; omega) ?_
  refine A4 (A2 ?_)
  refine A5 rfl ?_
  refine A1 rfl (F1 rfl (A0 rfl) B4 (by first | omega | (simp only [D4, B0, szR] at *; omega))) ?_
  refine B3 rfl ?_
  refine A4 ?_
  refine I0 i (i + 1) ?_ ?_ (K7 (by exact congrArg (fun z => [Own.arr v7 101 3 z]) (U9 hx)) ⟨rfl, rfl, rfl, rfl, trivial⟩)
  ·omega
  omega
 intro h11
 have k11 := of_decide_eq_false h11; try simp only [A6] at k11
 have hge : l.length ≤ i := by omega
 rw [V0 hge]
 refine F5 ?_
 refine A3 (A2 ?_)
 refine A5 rfl ?_
 refine B3 rfl ?_
 refine A4 ?_
 refine B8 ?_
 refine e6 0 2 rfl rfl ?_
 exact E4 rfl (B7 rfl (by first | rfl | (refine congrArg AV.bool ?_; simp_all; done)))
theorem AS6 (a b : List TWrite) : FSpec Tryz.prog 148 [AV.list 3 (a.map TWrite.cs), AV.list 3 (b.map TWrite.cs)] (AV.bool (decide (a = b))) := by
 refine D3 Tryz.func148 rfl Tryz.ntmps148 rfl ?_
 refine N7 (t := 0) rfl fun hl => ?_
 try simp only [A6] at hl
 refine A3 (A2 ?_)
 refine A1 rfl (A9 rfl E3) ?_
 refine A4 (A3 (A3 (A2 ?_)))
 refine A5 rfl ?_
 refine A1 rfl (E9 rfl E7 (A0 rfl)) ?_
 refine A5 rfl ?_
 refine A1 rfl (E9 rfl E7 (A0 rfl)) ?_
 refine A1 rfl (R6 rfl (A0 rfl) (A0 rfl)) ?_
 refine A4 ?_
 refine C0 (A0 rfl) ?_ ?_
 ·intro h10
  have k10 := N6 h10; try simp only [A6] at k10
  have hab : a ≠ b := by intro hc; subst hc; exact k10 rfl
  refine A3 (A2 ?_)
  refine A1 rfl (A9 rfl E3) ?_
  refine A4 ?_
  refine B8 ?_
  exact E4 rfl (B7 rfl (by exact congrArg AV.bool (by simp [hab])))
 intro h10
 have k10 := J1 h10; try simp only [A6] at k10
 have heq : a.length = b.length := by omega
 refine C1 (A3 (A3 (A2 ?_)))
 refine A1 rfl (A9 rfl B4) ?_
 refine A4 (C4 ?_)
 refine H2 [(0, _), (1, _)] _ (fun (i : Nat) => i ≤ a.length ∧ a.take i = b.take i) (fun (i : Nat) => []) (fun (i : Nat) => [(5, AV.int i)]) (fun (i : Nat) => a.length - i) (0) ?_ (H1 ⟨rfl, rfl, rfl, trivial⟩) ?_
 ·exact ⟨Nat.zero_le _, rfl⟩
 intro i hinv
 refine A3 (A3 (A2 ?_))
 refine A5 rfl ?_
 refine A5 rfl ?_
 refine A1 rfl (E9 rfl E7 (A0 rfl)) ?_
 refine A1 rfl (G0 rfl (A0 rfl) (A0 rfl)) ?_
 refine A4 ?_
 refine C0 (A0 rfl) ?_ ?_
 ·intro h14
  have k14 := of_decide_eq_true h14; try simp only [A6] at k14
  have hlt : i < a.length := by omega
  obtain ⟨x, hx⟩ := get_some hlt
  obtain ⟨y, hy⟩ := get_some (show i < b.length by omega)
  refine C1 (A3 (C4 (A3 ?_)))
  refine H7 (by kernel_rfl) (by kernel_rfl) rfl ?_
  refine B5 rfl rfl (C2 rfl (A0 rfl)) ?_
  refine B5 rfl rfl (C2 rfl (A0 rfl)) ?_
  refine B5 rfl rfl (O7 rfl E7 G1 (A0 rfl) (A0 rfl) (by omega) (by simp only [Int.toNat_natCast, List.getElem?_map, hx, Option.map_some]; try rfl)) ?_
  refine B5 rfl rfl (H8 rfl (A0 rfl) P1 G1) ?_
  refine B5 rfl rfl (C2 rfl (A0 rfl)) ?_
  refine B5 rfl rfl (C2 rfl (A0 rfl)) ?_
  refine B5 rfl rfl (O7 rfl E7 G1 (A0 rfl) (A0 rfl) (by omega) (by simp only [Int.toNat_natCast, List.getElem?_map, hy, Option.map_some]; try rfl)) ?_
  refine B5 rfl rfl (H8 rfl (A0 rfl) P1 G1) ?_
  refine B5 rfl rfl (E1 rfl Tryz.call192 rfl (AX3 _ _) (A8 (A0 rfl) (A8 (A0 rfl) C7))) ?_
  refine B5 rfl rfl (J3 rfl (A0 rfl)) ?_
  refine O5 ?_
  refine C0 (A0 rfl) ?_ ?_
  ·intro h26
   have hab : a ≠ b := by intro hc; subst hc; rw [hx] at hy; injection hy with hy; subst hy; simp at h26
   refine A3 (A2 ?_)
   refine A1 rfl (A9 rfl E3) ?_
   refine A4 ?_
   refine B8 ?_
   exact E4 rfl (B7 rfl (by exact congrArg AV.bool (by simp [hab])))
  intro h26
  refine C1 (A2 ?_)
  refine A5 rfl ?_
  refine A1 rfl (F1 rfl (A0 rfl) B4 (by first | omega | (simp only [D4, B0, szR] at *; omega))) ?_
  refine B3 rfl ?_
  refine A4 ?_
  refine I0 i (i + 1) ?_ ?_ (H1 ⟨rfl, rfl, rfl, trivial⟩)
  ·exact ⟨by omega, V5 hinv.2 hx (by rw [hy]; congr 1; simp_all)⟩
  omega
 intro h14
 have k14 := of_decide_eq_false h14; try simp only [A6] at k14
 have hge : a.length ≤ i := by omega
 have hab : a = b := Y1 heq hinv.2 hge
 refine F5 ?_
 refine A3 (A2 ?_)
 refine A1 rfl (A9 rfl E3) ?_
 refine A4 ?_
 refine B8 ?_
 exact E4 rfl (B7 rfl (by exact congrArg AV.bool (by simp [hab])))
theorem Aj2 (a : TVer) (left : Int) (hok : a.ok) (h0 : 0 ≤ left) (h1 : left ≤ 1048576) : FSpec Tryz.prog 181 [AV.agg a.cs, AV.int left] (AV.int (szR a.size left)) := by
 have oVal := hok; unfold TVer.ok at oVal
 refine D3 Tryz.func181 rfl Tryz.ntmps181 rfl ?_
 refine A3 (A2 ?_)
 refine I8 rfl rfl rfl rfl (A0 rfl) ?_
 intro b2
 refine A1 rfl (A9 rfl B4) ?_
 refine A4 (A3 (A2 ?_))
 refine A5 rfl ?_
 refine A1 rfl (B2 1 rfl Tryz.underlying217 rfl C6 (A0 rfl) rfl) ?_
 refine A1 rfl (B1 0 rfl (A0 rfl) rfl E5 rfl) ?_
 refine A1 rfl (Y7 rfl I3 (A0 rfl)) ?_
 refine A1 rfl (P4 rfl (A0 rfl) (A0 rfl) (by first | omega | (simp only [D4, B0, szR] at *; omega))) ?_
 refine B3 rfl ?_
 refine A4 (A3 (A3 (A2 ?_)))
 refine A5 rfl ?_
 refine A1 rfl (G0 rfl (A0 rfl) B4) ?_
 refine A4 ?_
 refine C0 (A0 rfl) ?_ ?_
 ·intro h11
  have k11 := of_decide_eq_true h11; try simp only [A6] at k11
  refine A3 (A2 ?_)
  refine A1 rfl (A9 rfl B4) ?_
  refine A4 ?_
  refine B8 ?_
  exact E4 rfl (B7 rfl (by exact congrArg AV.int (by simp only [szR, TVer.size, decide_eq_true_eq, decide_eq_false_iff_not] at *; omega)))
 intro h11
 have k11 := of_decide_eq_false h11; try simp only [A6] at k11
 refine C1 (A3 (A2 ?_))
 refine A5 rfl ?_
 refine B3 rfl ?_
 refine A4 ?_
 refine B8 ?_
 exact E4 rfl (B7 rfl (by exact congrArg AV.int (by simp only [szR, TVer.size, decide_eq_true_eq, decide_eq_false_iff_not] at *; omega)))
theorem AK6 (a : TVer) (hs : a.size ≤ 1048576) : FSpec Tryz.prog 183 [AV.agg a.cs] (AV.agg a.cs) := by
 unfold TVer.size at hs
 refine D3 Tryz.func183 rfl Tryz.ntmps183 rfl ?_
 refine A3 (A2 ?_)
 refine I8 rfl rfl rfl rfl (A0 rfl) ?_
 intro b1
 refine I1 rfl rfl rfl rfl Tryz.zeroValue127 rfl ?_
 intro b2
 refine A4 (A3 (A2 ?_))
 refine I1 rfl rfl rfl rfl Tryz.zeroValue127 rfl ?_
 intro b3
 refine A4 (A3 (A2 ?_))
 refine A1 rfl (B2 0 rfl Tryz.underlying217 rfl B9 (A0 rfl) rfl) ?_
 refine A1 rfl (B1 2 rfl (A0 rfl) rfl D2 rfl) ?_
 refine A1 rfl (B2 0 rfl F7 rfl B9 (A0 rfl) rfl) ?_
 refine J6 0 rfl rfl rfl (A0 rfl) (A0 rfl) (P9 _ _) rfl B9 rfl ?_
 refine A4 (A3 (A2 ?_))
 refine A1 rfl (B2 1 rfl Tryz.underlying217 rfl C6 (A0 rfl) rfl) ?_
 refine A1 rfl (B1 2 rfl (A0 rfl) rfl E5 rfl) ?_
 refine A1 rfl (B2 1 rfl F7 rfl C6 (A0 rfl) rfl) ?_
 refine J6 0 rfl rfl rfl (A0 rfl) (A0 rfl) (Q7 _) rfl C6 rfl ?_
 refine A4 (A3 (A2 ?_))
 refine A1 rfl (B2 2 rfl Tryz.underlying217 rfl F8 (A0 rfl) rfl) ?_
 refine A1 rfl (B1 2 rfl (A0 rfl) rfl I5 rfl) ?_
 refine A1 rfl (B2 2 rfl F7 rfl F8 (A0 rfl) rfl) ?_
 refine J6 0 rfl rfl rfl (A0 rfl) (A0 rfl) (c4 _) rfl F8 rfl ?_
 refine A4 (A3 (A2 ?_))
 refine A1 rfl (K8 0 rfl (A0 rfl) rfl U2 I4 rfl) ?_
 refine H9 1 rfl rfl rfl (A0 rfl) (A0 rfl) (J4 _) rfl I4 rfl ?_
 refine A4 ?_
 refine B8 ?_
 exact E4 rfl (V2 (ys := _) 1 rfl rfl U2 I4 rfl)
theorem Aj3 (a b : TVer) : FSpec Tryz.prog 191 [AV.agg a.cs, AV.agg b.cs] (AV.bool (decide (a = b))) := by
 refine D3 Tryz.func191 rfl Tryz.ntmps191 rfl ?_
 refine A3 (A2 ?_)
 refine I8 rfl rfl rfl rfl (A0 rfl) ?_
 intro b2
 refine I8 rfl rfl rfl rfl (A0 rfl) ?_
 intro b3
 refine A1 rfl (A9 rfl E3) ?_
 refine A4 (A3 (A3 (A2 ?_)))
 refine A1 rfl (B2 0 rfl F7 rfl B9 (A0 rfl) rfl) ?_
 refine A1 rfl (B1 1 rfl (A0 rfl) rfl D2 rfl) ?_
 refine A1 rfl (B2 0 rfl F7 rfl B9 (A0 rfl) rfl) ?_
 refine A1 rfl (B1 0 rfl (A0 rfl) rfl D2 rfl) ?_
 refine A1 rfl (R6 rfl (A0 rfl) (A0 rfl)) ?_
 refine A4 ?_
 refine C0 (A0 rfl) ?_ ?_
 ·intro h9
  have k9 := N6 h9; try simp only [A6] at k9
  refine A3 (A2 ?_)
  refine A1 rfl (A9 rfl E3) ?_
  refine A4 ?_
  refine B8 ?_
  exact E4 rfl (B7 rfl (by exact congrArg AV.bool (by cases a; cases b; simp_all)))
 intro h9
 have k9 := J1 h9; try simp only [A6] at k9
 refine C1 (A3 (A3 (A2 ?_)))
 refine A1 rfl (B2 1 rfl F7 rfl C6 (A0 rfl) rfl) ?_
 refine A1 rfl (B1 1 rfl (A0 rfl) rfl E5 rfl) ?_
 refine A1 rfl (B2 1 rfl F7 rfl C6 (A0 rfl) rfl) ?_
 refine A1 rfl (B1 0 rfl (A0 rfl) rfl E5 rfl) ?_
 refine A1 rfl (Y6 rfl (A0 rfl) (A0 rfl)) ?_
 refine A4 ?_
 refine C0 (A0 rfl) ?_ ?_
 ·intro h14
  refine A3 (A2 ?_)
  refine A1 rfl (A9 rfl E3) ?_
  refine A4 ?_
  refine B8 ?_
  exact E4 rfl (B7 rfl (by exact congrArg AV.bool (by cases a; cases b; simp_all)))
 intro h14
 refine C1 (A3 (A3 (A2 ?_)))
 refine A1 rfl (B2 2 rfl F7 rfl F8 (A0 rfl) rfl) ?_
 refine A1 rfl (B1 1 rfl (A0 rfl) rfl I5 rfl) ?_
 refine A1 rfl (B2 2 rfl F7 rfl F8 (A0 rfl) rfl) ?_
 refine A1 rfl (B1 0 rfl (A0 rfl) rfl I5 rfl) ?_
 refine A1 rfl (m1 rfl N5 (A0 rfl) (A0 rfl)) ?_
 refine A4 ?_
 refine C0 (A0 rfl) ?_ ?_
 ·intro h19
  refine A3 (A2 ?_)
  refine A1 rfl (A9 rfl E3) ?_
  refine A4 ?_
  refine B8 ?_
  exact E4 rfl (B7 rfl (by exact congrArg AV.bool (by cases a; cases b; simp_all)))
 intro h19
 refine C1 (A3 (A2 ?_))
 refine A1 rfl (A9 rfl E3) ?_
 refine A4 ?_
 refine B8 ?_
 exact E4 rfl (B7 rfl (by exact congrArg AV.bool (by cases a; cases b; simp_all)))
theorem Ac1 (l : List TVer) (left : Int) (hok : (∀ x ∈ l, x.ok)) (h0 : 0 ≤ left) (h1 : left ≤ 1048576) : FSpec Tryz.prog 130 [AV.list 3 (l.map TVer.cs), AV.int left] (AV.int (szR (sizeL TVer.size l) left)) := by
 refine D3 Tryz.func130 rfl Tryz.ntmps130 rfl ?_
 refine N7 (t := 0) rfl fun hl => ?_
 try simp only [A6] at hl
 refine A3 (A2 ?_)
 refine A1 rfl (A9 rfl B4) ?_
 refine A4 (A3 (A2 ?_))
 refine A5 rfl ?_
 refine A5 rfl ?_
 refine A1 rfl (E9 rfl O4 (A0 rfl)) ?_
 refine A1 rfl (P4 rfl (A0 rfl) (A0 rfl) (by first | omega | (simp only [D4, B0, szR] at *; omega))) ?_
 refine B3 rfl ?_
 refine A4 (A3 (A3 (A2 ?_)))
 refine A5 rfl ?_
 refine A1 rfl (G0 rfl (A0 rfl) B4) ?_
 refine A4 ?_
 refine C0 (A0 rfl) ?_ ?_
 ·intro h11
  have k11 := of_decide_eq_true h11; try simp only [A6] at k11
  refine A3 (A2 ?_)
  refine A1 rfl (A9 rfl B4) ?_
  refine A4 ?_
  refine B8 ?_
  exact E4 rfl (B7 rfl (by exact congrArg AV.int (by simp only [szR, sizeL, A6, decide_eq_true_eq, decide_eq_false_iff_not] at *; omega)))
 intro h11
 have k11 := of_decide_eq_false h11; try simp only [A6] at k11
 refine C1 (A3 (A3 (A2 ?_)))
 refine A1 rfl (A9 rfl B4) ?_
 refine A4 (C4 ?_)
 refine J8 [(0, _)] _ (fun (i : Nat) (b : Int) => i ≤ l.length ∧ b = left - l.length - (((l.take i).map TVer.size).sum : Nat) ∧ 0 ≤ b) (fun (i : Nat) (b : Int) => []) (fun (i : Nat) (b : Int) => [(1, AV.int b), (5, AV.int i)]) (fun (i : Nat) (b : Int) => l.length - i) (0) (left - ((l.map fun x => TVer.cs x).length : Int)) ?_ (H1 ⟨rfl, rfl, rfl, trivial⟩) ?_
 ·exact ⟨Nat.zero_le _, by simp, by simp only [A6]; omega⟩
 intro i b hinv
 refine A3 (A3 (A2 ?_))
 refine A5 rfl ?_
 refine A5 rfl ?_
 refine A1 rfl (E9 rfl O4 (A0 rfl)) ?_
 refine A1 rfl (G0 rfl (A0 rfl) (A0 rfl)) ?_
 refine A4 ?_
 refine C0 (A0 rfl) ?_ ?_
 ·intro h15
  have k15 := of_decide_eq_true h15; try simp only [A6] at k15
  have hlt : i < l.length := by omega
  obtain ⟨x, hx⟩ := get_some hlt
  have e2 := o8 TVer.size l i x hx
  have hokx := hok x (H4 hx)
  refine C1 (A3 (C4 (A3 (A2 ?_))))
  refine A5 rfl ?_
  refine A5 rfl ?_
  refine A1 rfl (O7 rfl O4 W1 (A0 rfl) (A0 rfl) (by omega) (by simp only [Int.toNat_natCast, List.getElem?_map, hx, Option.map_some]; try rfl)) ?_
  refine A1 rfl (H8 rfl (A0 rfl) Tryz.isAgg217 W1) ?_
  refine A5 rfl ?_
  refine A1 rfl (E1 rfl Tryz.call181 rfl (Aj2 _ _ (by assumption) (by first | omega | (simp only [D4, B0, szR] at *; omega)) (by first | omega | (simp only [D4, B0, szR] at *; omega))) (A8 (A0 rfl) (A8 (A0 rfl) C7))) ?_
  refine B3 rfl ?_
  refine A4 (A3 (A2 ?_))
  refine A5 rfl ?_
  refine A1 rfl (G0 rfl (A0 rfl) B4) ?_
  refine A4 ?_
  refine C0 (A0 rfl) ?_ ?_
  ·intro h25
   have k25 := of_decide_eq_true h25; try simp only [A6] at k25
   refine A3 (A2 ?_)
   refine A1 rfl (A9 rfl B4) ?_
   refine A4 ?_
   refine B8 ?_
   exact E4 rfl (B7 rfl (by exact congrArg AV.int (by simp only [szR, sizeL, A6, decide_eq_true_eq, decide_eq_false_iff_not] at *; omega)))
  intro h25
  have k25 := of_decide_eq_false h25; try simp only [A6] at k25
  refine C1 (A2 ?_)
  refine A5 rfl ?_
  refine A1 rfl (F1 rfl (A0 rfl) B4 (by first | omega | (simp only [D4, B0, szR] at *; omega))) ?_
  refine B3 rfl ?_
  refine A4 ?_
  refine J2 i b (i + 1) ((szR (TVer.size x) b)) ?_ ?_ (H1 ⟨rfl, rfl, rfl, trivial⟩)
  ·exact ⟨by omega, by have e1 := j7 TVer.size l i x hx; simp only [szR, decide_eq_false_iff_not] at *; omega, by omega⟩
  omega
 intro h15
 have k15 := of_decide_eq_false h15; try simp only [A6] at k15
 have hge : l.length ≤ i := by omega
 have e3 : ((l.take i).map TVer.size).sum = (l.map TVer.size).sum := by rw [List.take_of_length_le hge]
 refine F5 ?_
 refine A3 (A2 ?_)
 refine A5 rfl ?_
 refine B3 rfl ?_
 refine A4 ?_
 refine B8 ?_
 exact E4 rfl (B7 rfl (by exact congrArg AV.int (by simp only [szR, sizeL, A6, decide_eq_true_eq, decide_eq_false_iff_not] at *; omega)))
theorem Ac2 (l : List TVer) (hs : sizeL TVer.size l ≤ 1048576) : FSpec Tryz.prog 133 [AV.list 3 (l.map TVer.cs)] (AV.list 3 (l.map TVer.cs)) := by
 have hsl : l.length ≤ 1048576 := Nat.le_trans L1 hs
 refine D3 Tryz.func133 rfl Tryz.ntmps133 rfl ?_
 refine A3 (A2 ?_)
 refine A1 rfl (A9 rfl (c3 (sz := 3))) ?_
 refine A4 (A3 (A2 ?_))
 refine A5 rfl ?_
 refine A1 rfl (E9 rfl O4 (A0 rfl)) ?_
 refine V7 (by' := 32) rfl rfl rfl rfl G5 Tryz.type127 rfl rfl rfl rfl rfl rfl (A0 rfl) (A0 rfl) (by simp only [A6]; omega) (by simp only [A6]; omega) ?_
 intro v7
 refine B3 rfl ?_
 refine A4 (A3 (A3 (A2 ?_)))
 refine A1 rfl (A9 rfl B4) ?_
 refine A4 (C4 ?_)
 refine H2 [(0, _), (2, _), (3, _)] _ (fun (i : Nat) => i ≤ l.length) (fun (i : Nat) => [.arr v7 127 3 ((l.take i).map TVer.cs ++ List.replicate (l.length - i) [AV.int 0, AV.str [], AV.bool false])]) (fun (i : Nat) => [(4, AV.int i)]) (fun (i : Nat) => l.length - i) (0) ?_ (K7 (by simp only [A6]; rfl) ⟨rfl, rfl, rfl, rfl, trivial⟩) ?_
 ·exact Nat.zero_le _
 intro i hinv
 refine A3 (A3 (A2 ?_))
 refine A5 rfl ?_
 refine A5 rfl ?_
 refine A1 rfl (E9 rfl O4 (A0 rfl)) ?_
 refine A1 rfl (G0 rfl (A0 rfl) (A0 rfl)) ?_
 refine A4 ?_
 refine C0 (A0 rfl) ?_ ?_
 ·intro h11
  have k11 := of_decide_eq_true h11; try simp only [A6] at k11
  have hlt : i < l.length := by omega
  obtain ⟨x, hx⟩ := get_some hlt
  have hsx : TVer.size x ≤ 1048576 := Nat.le_trans (Q5 hx) hs
  refine C1 (A3 (C4 (A2 ?_)))
  refine A5 rfl ?_
  refine A5 rfl ?_
  refine A5 rfl ?_
  refine A5 rfl ?_
  refine A1 rfl (O7 rfl O4 W1 (A0 rfl) (A0 rfl) (by omega) (by simp only [Int.toNat_natCast, List.getElem?_map, hx, Option.map_some]; try rfl)) ?_
  refine A1 rfl (H8 rfl (A0 rfl) Tryz.isAgg217 W1) ?_
  refine A1 rfl (E1 rfl Tryz.call183 rfl (AK6 _ (by first | assumption | omega | (simp only [] at *; omega))) (A8 (A0 rfl) C7)) ?_
  refine A1 rfl (L0 0 rfl G5 I4 (A0 rfl) rfl (A0 rfl) (by omega) (by rw [P6 hinv]; omega)) ?_
  refine R8 0 rfl rfl rfl (A0 rfl) (A0 rfl) (J4 _) rfl I4 rfl (by rw [P6 hinv]; omega) ?_
  refine A4 (A2 ?_)
  refine A5 rfl ?_
  refine A1 rfl (F1 rfl (A0 rfl) B4 (by first | omega | (simp only [D4, B0, szR] at *; omega))) ?_
  refine B3 rfl ?_
  refine A4 ?_
  refine I0 i (i + 1) ?_ ?_ (K7 (by exact congrArg (fun z => [Own.arr v7 127 3 z]) (U9 hx)) ⟨rfl, rfl, rfl, rfl, trivial⟩)
  ·omega
  omega
 intro h11
 have k11 := of_decide_eq_false h11; try simp only [A6] at k11
 have hge : l.length ≤ i := by omega
 rw [V0 hge]
 refine F5 ?_
 refine A3 (A2 ?_)
 refine A5 rfl ?_
 refine B3 rfl ?_
 refine A4 ?_
 refine B8 ?_
 refine e6 0 2 rfl rfl ?_
 exact E4 rfl (B7 rfl (by first | rfl | (refine congrArg AV.bool ?_; simp_all; done)))
theorem Ac3 (a b : List TVer) : FSpec Tryz.prog 146 [AV.list 3 (a.map TVer.cs), AV.list 3 (b.map TVer.cs)] (AV.bool (decide (a = b))) := by
 refine D3 Tryz.func146 rfl Tryz.ntmps146 rfl ?_
 refine N7 (t := 0) rfl fun hl => ?_
 try simp only [A6] at hl
 refine A3 (A2 ?_)
 refine A1 rfl (A9 rfl E3) ?_
 refine A4 (A3 (A3 (A2 ?_)))
 refine A5 rfl ?_
 refine A1 rfl (E9 rfl G5 (A0 rfl)) ?_
 refine A5 rfl ?_
 refine A1 rfl (E9 rfl G5 (A0 rfl)) ?_
 refine A1 rfl (R6 rfl (A0 rfl) (A0 rfl)) ?_
 refine A4 ?_
 refine C0 (A0 rfl) ?_ ?_
 ·intro h10
  have k10 := N6 h10; try simp only [A6] at k10
  have hab : a ≠ b := by intro hc; subst hc; exact k10 rfl
  refine A3 (A2 ?_)
  refine A1 rfl (A9 rfl E3) ?_
  refine A4 ?_
  refine B8 ?_
  exact E4 rfl (B7 rfl (by exact congrArg AV.bool (by simp [hab])))
 intro h10
 have k10 := J1 h10; try simp only [A6] at k10
 have heq : a.length = b.length := by omega
 refine C1 (A3 (A3 (A2 ?_)))
 refine A1 rfl (A9 rfl B4) ?_
 refine A4 (C4 ?_)
 refine H2 [(0, _), (1, _)] _ (fun (i : Nat) => i ≤ a.length ∧ a.take i = b.take i) (fun (i : Nat) => []) (fun (i : Nat) => [(5, AV.int i)]) (fun (i : Nat) => a.length - i) (0) ?_ (H1 ⟨rfl, rfl, rfl, trivial⟩) ?_
 ·exact ⟨Nat.zero_le _, rfl⟩
 intro i hinv
 refine A3 (A3 (A2 ?_))
 refine A5 rfl ?_
 refine A5 rfl ?_
 refine A1 rfl (E9 rfl G5 (A0 rfl)) ?_
 refine A1 rfl (G0 rfl (A0 rfl) (A0 rfl)) ?_
 refine A4 ?_
 refine C0 (A0 rfl) ?_ ?_
 ·intro h14
  have k14 := of_decide_eq_true h14; try simp only [A6] at k14
  have hlt : i < a.length := by omega
  obtain ⟨x, hx⟩ := get_some hlt
  obtain ⟨y, hy⟩ := get_some (show i < b.length by omega)
  refine C1 (A3 (C4 (A3 ?_)))
  refine H7 (by kernel_rfl) (by kernel_rfl) rfl ?_
  refine B5 rfl rfl (C2 rfl (A0 rfl)) ?_
  refine B5 rfl rfl (C2 rfl (A0 rfl)) ?_
  refine B5 rfl rfl (O7 rfl G5 I4 (A0 rfl) (A0 rfl) (by omega) (by simp only [Int.toNat_natCast, List.getElem?_map, hx, Option.map_some]; try rfl)) ?_
  refine B5 rfl rfl (H8 rfl (A0 rfl) U2 I4) ?_
  refine B5 rfl rfl (C2 rfl (A0 rfl)) ?_
  refine B5 rfl rfl (C2 rfl (A0 rfl)) ?_
  refine B5 rfl rfl (O7 rfl G5 I4 (A0 rfl) (A0 rfl) (by omega) (by simp only [Int.toNat_natCast, List.getElem?_map, hy, Option.map_some]; try rfl)) ?_
  refine B5 rfl rfl (H8 rfl (A0 rfl) U2 I4) ?_
  refine B5 rfl rfl (E1 rfl Tryz.call191 rfl (Aj3 _ _) (A8 (A0 rfl) (A8 (A0 rfl) C7))) ?_
  refine B5 rfl rfl (J3 rfl (A0 rfl)) ?_
  refine O5 ?_
  refine C0 (A0 rfl) ?_ ?_
  ·intro h26
   have hab : a ≠ b := by intro hc; subst hc; rw [hx] at hy; injection hy with hy; subst hy; simp at h26
   refine A3 (A2 ?_)
   refine A1 rfl (A9 rfl E3) ?_
   refine A4 ?_
   refine B8 ?_
   exact E4 rfl (B7 rfl (by exact congrArg AV.bool (by simp [hab])))
  intro h26
  refine C1 (A2 ?_)
  refine A5 rfl ?_
  refine A1 rfl (F1 rfl (A0 rfl) B4 (by first | omega | (simp only [D4, B0, szR] at *; omega))) ?_
  refine B3 rfl ?_
  refine A4 ?_
  refine I0 i (i + 1) ?_ ?_ (H1 ⟨rfl, rfl, rfl, trivial⟩)
  ·exact ⟨by omega, V5 hinv.2 hx (by rw [hy]; congr 1; simp_all)⟩
  omega
 intro h14
 have k14 := of_decide_eq_false h14; try simp only [A6] at k14
 have hge : a.length ≤ i := by omega
 have hab : a = b := Y1 heq hinv.2 hge
 refine F5 ?_
 refine A3 (A2 ?_)
 refine A1 rfl (A9 rfl E3) ?_
 refine A4 ?_
 refine B8 ?_
 exact E4 rfl (B7 rfl (by exact congrArg AV.bool (by simp [hab])))
theorem Ac4 (a : TCell) (left : Int) (hok : a.ok) (h0 : 0 ≤ left) (h1 : left ≤ 1048576) : FSpec Tryz.prog 86 [AV.agg a.cs, AV.int left] (AV.int (szR a.size left)) := by
 obtain ⟨oKey, oVers⟩ := hok
 refine D3 Tryz.func86 rfl Tryz.ntmps86 rfl ?_
 refine A3 (A2 ?_)
 refine I8 rfl rfl rfl rfl (A0 rfl) ?_
 intro b2
 refine A1 rfl (A9 rfl B4) ?_
 refine A4 (A3 (A2 ?_))
 refine A5 rfl ?_
 refine A1 rfl (B2 0 rfl R5 rfl C6 (A0 rfl) rfl) ?_
 refine A1 rfl (B1 0 rfl (A0 rfl) rfl E5 rfl) ?_
 refine A1 rfl (Y7 rfl I3 (A0 rfl)) ?_
 refine A1 rfl (P4 rfl (A0 rfl) (A0 rfl) (by first | omega | (simp only [D4, B0, szR] at *; omega))) ?_
 refine B3 rfl ?_
 refine A4 (A3 (A3 (A2 ?_)))
 refine A5 rfl ?_
 refine A1 rfl (G0 rfl (A0 rfl) B4) ?_
 refine A4 ?_
 refine C0 (A0 rfl) ?_ ?_
 ·intro h11
  have k11 := of_decide_eq_true h11; try simp only [A6] at k11
  refine A3 (A2 ?_)
  refine A1 rfl (A9 rfl B4) ?_
  refine A4 ?_
  refine B8 ?_
  exact E4 rfl (B7 rfl (by exact congrArg AV.int (by simp only [szR, TCell.size, decide_eq_true_eq, decide_eq_false_iff_not] at *; omega)))
 intro h11
 have k11 := of_decide_eq_false h11; try simp only [A6] at k11
 refine C1 (A3 (A2 ?_))
 refine A1 rfl (B2 1 rfl R5 rfl Tryz.sizeOf132 (A0 rfl) rfl) ?_
 refine A1 rfl (B1 0 rfl (A0 rfl) rfl Tryz.isAgg132 rfl) ?_
 refine A5 rfl ?_
 refine A1 rfl (E1 rfl Tryz.call130 rfl (Ac1 _ _ (by first | assumption | trivial) (by first | omega | (simp only [D4, B0, szR] at *; omega)) (by first | omega | (simp only [D4, B0, szR] at *; omega))) (A8 (A0 rfl) (A8 (A0 rfl) C7))) ?_
 refine B3 rfl ?_
 refine A4 (A3 (A3 (A2 ?_)))
 refine A5 rfl ?_
 refine A1 rfl (G0 rfl (A0 rfl) B4) ?_
 refine A4 ?_
 refine C0 (A0 rfl) ?_ ?_
 ·intro h17
  have k17 := of_decide_eq_true h17; try simp only [A6] at k17
  refine A3 (A2 ?_)
  refine A1 rfl (A9 rfl B4) ?_
  refine A4 ?_
  refine B8 ?_
  exact E4 rfl (B7 rfl (by exact congrArg AV.int (by simp only [szR, TCell.size, decide_eq_true_eq, decide_eq_false_iff_not] at *; omega)))
 intro h17
 have k17 := of_decide_eq_false h17; try simp only [A6] at k17
 refine C1 (A3 (A2 ?_))
 refine A5 rfl ?_
 refine B3 rfl ?_
 refine A4 ?_
 refine B8 ?_
 exact E4 rfl (B7 rfl (by exact congrArg AV.int (by simp only [szR, TCell.size, decide_eq_true_eq, decide_eq_false_iff_not] at *; omega)))
theorem Ac5 (a : TCell) (hs : a.size ≤ 1048576) : FSpec Tryz.prog 88 [AV.agg a.cs] (AV.agg a.cs) := by
 unfold TCell.size at hs
 refine D3 Tryz.func88 rfl Tryz.ntmps88 rfl ?_
 refine A3 (A2 ?_)
 refine I8 rfl rfl rfl rfl (A0 rfl) ?_
 intro b1
 refine I1 rfl rfl rfl rfl Tryz.zeroValue125 rfl ?_
 intro b2
 refine A4 (A3 (A2 ?_))
 refine I1 rfl rfl rfl rfl Tryz.zeroValue125 rfl ?_
 intro b3
 refine A4 (A3 (A2 ?_))
 refine A1 rfl (B2 0 rfl R5 rfl C6 (A0 rfl) rfl) ?_
 refine A1 rfl (B1 2 rfl (A0 rfl) rfl E5 rfl) ?_
 refine A1 rfl (B2 0 rfl F2 rfl C6 (A0 rfl) rfl) ?_
 refine J6 0 rfl rfl rfl (A0 rfl) (A0 rfl) (Q7 _) rfl C6 rfl ?_
 refine A4 (A3 (A2 ?_))
 refine A1 rfl (B2 1 rfl R5 rfl Tryz.sizeOf132 (A0 rfl) rfl) ?_
 refine A1 rfl (B1 2 rfl (A0 rfl) rfl Tryz.isAgg132 rfl) ?_
 refine A1 rfl (E1 rfl Tryz.call133 rfl (Ac2 _ (by first | assumption | omega)) (A8 (A0 rfl) C7)) ?_
 refine A1 rfl (B2 1 rfl F2 rfl K2 (A0 rfl) rfl) ?_
 refine J6 0 rfl rfl rfl (A0 rfl) (A0 rfl) (Z0 _ _) rfl K2 rfl ?_
 refine A4 (A3 (A2 ?_))
 refine A1 rfl (K8 0 rfl (A0 rfl) rfl L9 E8 rfl) ?_
 refine H9 1 rfl rfl rfl (A0 rfl) (A0 rfl) (J4 _) rfl E8 rfl ?_
 refine A4 ?_
 refine B8 ?_
 exact E4 rfl (V2 (ys := _) 1 rfl rfl L9 E8 rfl)
theorem Ac6 (a b : TCell) : FSpec Tryz.prog 95 [AV.agg a.cs, AV.agg b.cs] (AV.bool (decide (a = b))) := by
 refine D3 Tryz.func95 rfl Tryz.ntmps95 rfl ?_
 refine A3 (A2 ?_)
 refine I8 rfl rfl rfl rfl (A0 rfl) ?_
 intro b2
 refine I8 rfl rfl rfl rfl (A0 rfl) ?_
 intro b3
 refine A1 rfl (A9 rfl E3) ?_
 refine A4 (A3 (A3 (A2 ?_)))
 refine A1 rfl (B2 0 rfl F2 rfl C6 (A0 rfl) rfl) ?_
 refine A1 rfl (B1 1 rfl (A0 rfl) rfl E5 rfl) ?_
 refine A1 rfl (B2 0 rfl F2 rfl C6 (A0 rfl) rfl) ?_
 refine A1 rfl (B1 0 rfl (A0 rfl) rfl E5 rfl) ?_
 refine A1 rfl (Y6 rfl (A0 rfl) (A0 rfl)) ?_
 refine A4 ?_
 refine C0 (A0 rfl) ?_ ?_
 ·intro h9
  refine A3 (A2 ?_)
  refine A1 rfl (A9 rfl E3) ?_
  refine A4 ?_
  refine B8 ?_
  exact E4 rfl (B7 rfl (by exact congrArg AV.bool (by cases a; cases b; simp_all)))
 intro h9
 refine C1 (A3 (A3 (A2 ?_)))
 refine A1 rfl (B2 1 rfl F2 rfl K2 (A0 rfl) rfl) ?_
 refine A1 rfl (B1 1 rfl (A0 rfl) rfl M0 rfl) ?_
 refine A1 rfl (B2 1 rfl F2 rfl K2 (A0 rfl) rfl) ?_
 refine A1 rfl (B1 0 rfl (A0 rfl) rfl M0 rfl) ?_
 refine A1 rfl (E1 rfl Tryz.call146 rfl (Ac3 _ _) (A8 (A0 rfl) (A8 (A0 rfl) C7))) ?_
 refine A1 rfl (J3 rfl (A0 rfl)) ?_
 refine A4 ?_
 refine C0 (A0 rfl) ?_ ?_
 ·intro h15
  refine A3 (A2 ?_)
  refine A1 rfl (A9 rfl E3) ?_
  refine A4 ?_
  refine B8 ?_
  exact E4 rfl (B7 rfl (by exact congrArg AV.bool (by cases a; cases b; simp_all)))
 intro h15
 refine C1 (A3 (A2 ?_))
 refine A1 rfl (A9 rfl E3) ?_
 refine A4 ?_
 refine B8 ?_
 exact E4 rfl (B7 rfl (by exact congrArg AV.bool (by cases a; cases b; simp_all)))
theorem Ac7 (a : THeld) (left : Int) (hok : a.ok) (h0 : 0 ≤ left) (h1 : left ≤ 1048576) : FSpec Tryz.prog 87 [AV.agg a.cs, AV.int left] (AV.int (szR a.size left)) := by
 obtain ⟨oReads, oWrites⟩ := hok
 refine D3 Tryz.func87 rfl Tryz.ntmps87 rfl ?_
 refine A3 (A2 ?_)
 refine I8 rfl rfl rfl rfl (A0 rfl) ?_
 intro b2
 refine A1 rfl (A9 rfl B4) ?_
 refine A4 (A3 (A2 ?_))
 refine A1 rfl (B2 3 rfl L7 rfl K1 (A0 rfl) rfl) ?_
 refine A1 rfl (B1 0 rfl (A0 rfl) rfl L6 rfl) ?_
 refine A5 rfl ?_
 refine A1 rfl (E1 rfl Tryz.call131 rfl (AN5 _ _ (by first | assumption | trivial) (by first | omega | (simp only [D4, B0, szR] at *; omega)) (by first | omega | (simp only [D4, B0, szR] at *; omega))) (A8 (A0 rfl) (A8 (A0 rfl) C7))) ?_
 refine B3 rfl ?_
 refine A4 (A3 (A3 (A2 ?_)))
 refine A5 rfl ?_
 refine A1 rfl (G0 rfl (A0 rfl) B4) ?_
 refine A4 ?_
 refine C0 (A0 rfl) ?_ ?_
 ·intro h10
  have k10 := of_decide_eq_true h10; try simp only [A6] at k10
  refine A3 (A2 ?_)
  refine A1 rfl (A9 rfl B4) ?_
  refine A4 ?_
  refine B8 ?_
  exact E4 rfl (B7 rfl (by exact congrArg AV.int (by simp only [szR, THeld.size, decide_eq_true_eq, decide_eq_false_iff_not] at *; omega)))
 intro h10
 have k10 := of_decide_eq_false h10; try simp only [A6] at k10
 refine C1 (A3 (A2 ?_))
 refine A1 rfl (B2 4 rfl L7 rfl Tryz.sizeOf136 (A0 rfl) rfl) ?_
 refine A1 rfl (B1 0 rfl (A0 rfl) rfl Tryz.isAgg136 rfl) ?_
 refine A5 rfl ?_
 refine A1 rfl (E1 rfl Tryz.call132 rfl (AS4 _ _ (by first | assumption | trivial) (by first | omega | (simp only [D4, B0, szR] at *; omega)) (by first | omega | (simp only [D4, B0, szR] at *; omega))) (A8 (A0 rfl) (A8 (A0 rfl) C7))) ?_
 refine B3 rfl ?_
 refine A4 (A3 (A3 (A2 ?_)))
 refine A5 rfl ?_
 refine A1 rfl (G0 rfl (A0 rfl) B4) ?_
 refine A4 ?_
 refine C0 (A0 rfl) ?_ ?_
 ·intro h16
  have k16 := of_decide_eq_true h16; try simp only [A6] at k16
  refine A3 (A2 ?_)
  refine A1 rfl (A9 rfl B4) ?_
  refine A4 ?_
  refine B8 ?_
  exact E4 rfl (B7 rfl (by exact congrArg AV.int (by simp only [szR, THeld.size, decide_eq_true_eq, decide_eq_false_iff_not] at *; omega)))
 intro h16
 have k16 := of_decide_eq_false h16; try simp only [A6] at k16
 refine C1 (A3 (A2 ?_))
 refine A5 rfl ?_
 refine B3 rfl ?_
 refine A4 ?_
 refine B8 ?_
 exact E4 rfl (B7 rfl (by exact congrArg AV.int (by simp only [szR, THeld.size, decide_eq_true_eq, decide_eq_false_iff_not] at *; omega)))
theorem Ac8 (a : THeld) (hs : a.size ≤ 1048576) : FSpec Tryz.prog 89 [AV.agg a.cs] (AV.agg a.cs) := by
 unfold THeld.size at hs
 refine D3 Tryz.func89 rfl Tryz.ntmps89 rfl ?_
 refine A3 (A2 ?_)
 refine I8 rfl rfl rfl rfl (A0 rfl) ?_
 intro b1
 refine I1 rfl rfl rfl rfl Tryz.zeroValue141 rfl ?_
 intro b2
 refine A4 (A3 (A2 ?_))
 refine I1 rfl rfl rfl rfl Tryz.zeroValue141 rfl ?_
 intro b3
 refine A4 (A3 (A2 ?_))
 refine A1 rfl (B2 0 rfl L7 rfl B9 (A0 rfl) rfl) ?_
 refine A1 rfl (B1 2 rfl (A0 rfl) rfl D2 rfl) ?_
 refine A1 rfl (B2 0 rfl D8 rfl B9 (A0 rfl) rfl) ?_
 refine J6 0 rfl rfl rfl (A0 rfl) (A0 rfl) (P9 _ _) rfl B9 rfl ?_
 refine A4 (A3 (A2 ?_))
 refine A1 rfl (B2 1 rfl L7 rfl B9 (A0 rfl) rfl) ?_
 refine A1 rfl (B1 2 rfl (A0 rfl) rfl D2 rfl) ?_
 refine A1 rfl (B2 1 rfl D8 rfl B9 (A0 rfl) rfl) ?_
 refine J6 0 rfl rfl rfl (A0 rfl) (A0 rfl) (P9 _ _) rfl B9 rfl ?_
 refine A4 (A3 (A2 ?_))
 refine A1 rfl (B2 2 rfl L7 rfl B9 (A0 rfl) rfl) ?_
 refine A1 rfl (B1 2 rfl (A0 rfl) rfl D2 rfl) ?_
 refine A1 rfl (B2 2 rfl D8 rfl B9 (A0 rfl) rfl) ?_
 refine J6 0 rfl rfl rfl (A0 rfl) (A0 rfl) (P9 _ _) rfl B9 rfl ?_
 refine A4 (A3 (A2 ?_))
 refine A1 rfl (B2 3 rfl L7 rfl K1 (A0 rfl) rfl) ?_
 refine A1 rfl (B1 2 rfl (A0 rfl) rfl L6 rfl) ?_
 refine A1 rfl (E1 rfl Tryz.call134 rfl (AN6 _ (by first | assumption | omega)) (A8 (A0 rfl) C7)) ?_
 refine A1 rfl (B2 3 rfl D8 rfl K1 (A0 rfl) rfl) ?_
 refine J6 0 rfl rfl rfl (A0 rfl) (A0 rfl) (Z0 _ _) rfl K1 rfl ?_
 refine A4 (A3 (A2 ?_))
 refine A1 rfl (B2 4 rfl L7 rfl Tryz.sizeOf136 (A0 rfl) rfl) ?_
 refine A1 rfl (B1 2 rfl (A0 rfl) rfl Tryz.isAgg136 rfl) ?_
 refine A1 rfl (E1 rfl Tryz.call135 rfl (AS5 _ (by first | assumption | omega)) (A8 (A0 rfl) C7)) ?_
 refine A1 rfl (B2 4 rfl D8 rfl I7 (A0 rfl) rfl) ?_
 refine J6 0 rfl rfl rfl (A0 rfl) (A0 rfl) (Z0 _ _) rfl I7 rfl ?_
 refine A4 (A3 (A2 ?_))
 refine A1 rfl (K8 0 rfl (A0 rfl) rfl K4 E6 rfl) ?_
 refine H9 1 rfl rfl rfl (A0 rfl) (A0 rfl) (J4 _) rfl E6 rfl ?_
 refine A4 ?_
 refine B8 ?_
 exact E4 rfl (V2 (ys := _) 1 rfl rfl K4 E6 rfl)
theorem Ac9 (a b : THeld) : FSpec Tryz.prog 96 [AV.agg a.cs, AV.agg b.cs] (AV.bool (decide (a = b))) := by
 refine D3 Tryz.func96 rfl Tryz.ntmps96 rfl ?_
 refine A3 (A2 ?_)
 refine I8 rfl rfl rfl rfl (A0 rfl) ?_
 intro b2
 refine I8 rfl rfl rfl rfl (A0 rfl) ?_
 intro b3
 refine A1 rfl (A9 rfl E3) ?_
 refine A4 (A3 (A3 (A2 ?_)))
 refine A1 rfl (B2 0 rfl D8 rfl B9 (A0 rfl) rfl) ?_
 refine A1 rfl (B1 1 rfl (A0 rfl) rfl D2 rfl) ?_
 refine A1 rfl (B2 0 rfl D8 rfl B9 (A0 rfl) rfl) ?_
 refine A1 rfl (B1 0 rfl (A0 rfl) rfl D2 rfl) ?_
 refine A1 rfl (R6 rfl (A0 rfl) (A0 rfl)) ?_
 refine A4 ?_
 refine C0 (A0 rfl) ?_ ?_
 ·intro h9
  have k9 := N6 h9; try simp only [A6] at k9
  refine A3 (A2 ?_)
  refine A1 rfl (A9 rfl E3) ?_
  refine A4 ?_
  refine B8 ?_
  exact E4 rfl (B7 rfl (by exact congrArg AV.bool (by cases a; cases b; simp_all)))
 intro h9
 have k9 := J1 h9; try simp only [A6] at k9
 refine C1 (A3 (A3 (A2 ?_)))
 refine A1 rfl (B2 1 rfl D8 rfl B9 (A0 rfl) rfl) ?_
 refine A1 rfl (B1 1 rfl (A0 rfl) rfl D2 rfl) ?_
 refine A1 rfl (B2 1 rfl D8 rfl B9 (A0 rfl) rfl) ?_
 refine A1 rfl (B1 0 rfl (A0 rfl) rfl D2 rfl) ?_
 refine A1 rfl (R6 rfl (A0 rfl) (A0 rfl)) ?_
 refine A4 ?_
 refine C0 (A0 rfl) ?_ ?_
 ·intro h14
  have k14 := N6 h14; try simp only [A6] at k14
  refine A3 (A2 ?_)
  refine A1 rfl (A9 rfl E3) ?_
  refine A4 ?_
  refine B8 ?_
  exact E4 rfl (B7 rfl (by exact congrArg AV.bool (by cases a; cases b; simp_all)))
 intro h14
 have k14 := J1 h14; try simp only [A6] at k14
 refine C1 (A3 (A3 (A2 ?_)))
 refine A1 rfl (B2 2 rfl D8 rfl B9 (A0 rfl) rfl) ?_
 refine A1 rfl (B1 1 rfl (A0 rfl) rfl D2 rfl) ?_
 refine A1 rfl (B2 2 rfl D8 rfl B9 (A0 rfl) rfl) ?_
 refine A1 rfl (B1 0 rfl (A0 rfl) rfl D2 rfl) ?_
 refine A1 rfl (R6 rfl (A0 rfl) (A0 rfl)) ?_
 refine A4 ?_
 refine C0 (A0 rfl) ?_ ?_
 ·intro h19
  have k19 := N6 h19; try simp only [A6] at k19
  refine A3 (A2 ?_)
  refine A1 rfl (A9 rfl E3) ?_
  refine A4 ?_
  refine B8 ?_
  exact E4 rfl (B7 rfl (by exact congrArg AV.bool (by cases a; cases b; simp_all)))
 intro h19
 have k19 := J1 h19; try simp only [A6] at k19
 refine C1 (A3 (A3 (A2 ?_)))
 refine A1 rfl (B2 3 rfl D8 rfl K1 (A0 rfl) rfl) ?_
 refine A1 rfl (B1 1 rfl (A0 rfl) rfl L6 rfl) ?_
 refine A1 rfl (B2 3 rfl D8 rfl K1 (A0 rfl) rfl) ?_
 refine A1 rfl (B1 0 rfl (A0 rfl) rfl L6 rfl) ?_
 refine A1 rfl (E1 rfl Tryz.call147 rfl (AN7 _ _) (A8 (A0 rfl) (A8 (A0 rfl) C7))) ?_
 refine A1 rfl (J3 rfl (A0 rfl)) ?_
 refine A4 ?_
 refine C0 (A0 rfl) ?_ ?_
 ·intro h25
  refine A3 (A2 ?_)
  refine A1 rfl (A9 rfl E3) ?_
  refine A4 ?_
  refine B8 ?_
  exact E4 rfl (B7 rfl (by exact congrArg AV.bool (by cases a; cases b; simp_all)))
 intro h25
 refine C1 (A3 (A3 (A2 ?_)))
 refine A1 rfl (B2 4 rfl D8 rfl I7 (A0 rfl) rfl) ?_
 refine A1 rfl (B1 1 rfl (A0 rfl) rfl J7 rfl) ?_
 refine A1 rfl (B2 4 rfl D8 rfl I7 (A0 rfl) rfl) ?_
 refine A1 rfl (B1 0 rfl (A0 rfl) rfl J7 rfl) ?_
 refine A1 rfl (E1 rfl Tryz.call148 rfl (AS6 _ _) (A8 (A0 rfl) (A8 (A0 rfl) C7))) ?_
 refine A1 rfl (J3 rfl (A0 rfl)) ?_
 refine A4 ?_
 refine C0 (A0 rfl) ?_ ?_
 ·intro h31
  refine A3 (A2 ?_)
  refine A1 rfl (A9 rfl E3) ?_
  refine A4 ?_
  refine B8 ?_
  exact E4 rfl (B7 rfl (by exact congrArg AV.bool (by cases a; cases b; simp_all)))
 intro h31
 refine C1 (A3 (A2 ?_))
 refine A1 rfl (A9 rfl E3) ?_
 refine A4 ?_
 refine B8 ?_
 exact E4 rfl (B7 rfl (by exact congrArg AV.bool (by cases a; cases b; simp_all)))
theorem AF6 (a : TTold) (hs : a.size ≤ 1048576) : FSpec Tryz.prog 90 [AV.agg a.cs] (AV.agg a.cs) := by
 unfold TTold.size at hs
 refine D3 Tryz.func90 rfl Tryz.ntmps90 rfl ?_
 refine A3 (A2 ?_)
 refine I8 rfl rfl rfl rfl (A0 rfl) ?_
 intro b1
 refine I1 rfl rfl rfl rfl Tryz.zeroValue144 rfl ?_
 intro b2
 refine A4 (A3 (A2 ?_))
 refine I1 rfl rfl rfl rfl Tryz.zeroValue144 rfl ?_
 intro b3
 refine A4 (A3 (A2 ?_))
 refine A1 rfl (B2 0 rfl Tryz.underlying146 rfl B9 (A0 rfl) rfl) ?_
 refine A1 rfl (B1 2 rfl (A0 rfl) rfl D2 rfl) ?_
 refine A1 rfl (B2 0 rfl G8 rfl B9 (A0 rfl) rfl) ?_
 refine J6 0 rfl rfl rfl (A0 rfl) (A0 rfl) (P9 _ _) rfl B9 rfl ?_
 refine A4 (A3 (A2 ?_))
 refine A1 rfl (B2 1 rfl Tryz.underlying146 rfl F8 (A0 rfl) rfl) ?_
 refine A1 rfl (B1 2 rfl (A0 rfl) rfl I5 rfl) ?_
 refine A1 rfl (B2 1 rfl G8 rfl F8 (A0 rfl) rfl) ?_
 refine J6 0 rfl rfl rfl (A0 rfl) (A0 rfl) (c4 _) rfl F8 rfl ?_
 refine A4 (A3 (A2 ?_))
 refine A1 rfl (B2 2 rfl Tryz.underlying146 rfl B9 (A0 rfl) rfl) ?_
 refine A1 rfl (B1 2 rfl (A0 rfl) rfl D2 rfl) ?_
 refine A1 rfl (B2 2 rfl G8 rfl B9 (A0 rfl) rfl) ?_
 refine J6 0 rfl rfl rfl (A0 rfl) (A0 rfl) (P9 _ _) rfl B9 rfl ?_
 refine A4 (A3 (A2 ?_))
 refine A1 rfl (K8 0 rfl (A0 rfl) rfl X6 K3 rfl) ?_
 refine H9 1 rfl rfl rfl (A0 rfl) (A0 rfl) (J4 _) rfl K3 rfl ?_
 refine A4 ?_
 refine B8 ?_
 exact E4 rfl (V2 (ys := _) 1 rfl rfl X6 K3 rfl)
theorem Ad0 (a b : TTold) : FSpec Tryz.prog 97 [AV.agg a.cs, AV.agg b.cs] (AV.bool (decide (a = b))) := by
 refine D3 Tryz.func97 rfl Tryz.ntmps97 rfl ?_
 refine A3 (A2 ?_)
 refine I8 rfl rfl rfl rfl (A0 rfl) ?_
 intro b2
 refine I8 rfl rfl rfl rfl (A0 rfl) ?_
 intro b3
 refine A1 rfl (A9 rfl E3) ?_
 refine A4 (A3 (A3 (A2 ?_)))
 refine A1 rfl (B2 0 rfl G8 rfl B9 (A0 rfl) rfl) ?_
 refine A1 rfl (B1 1 rfl (A0 rfl) rfl D2 rfl) ?_
 refine A1 rfl (B2 0 rfl G8 rfl B9 (A0 rfl) rfl) ?_
 refine A1 rfl (B1 0 rfl (A0 rfl) rfl D2 rfl) ?_
 refine A1 rfl (R6 rfl (A0 rfl) (A0 rfl)) ?_
 refine A4 ?_
 refine C0 (A0 rfl) ?_ ?_
 ·intro h9
  have k9 := N6 h9; try simp only [A6] at k9
  refine A3 (A2 ?_)
  refine A1 rfl (A9 rfl E3) ?_
  refine A4 ?_
  refine B8 ?_
  exact E4 rfl (B7 rfl (by exact congrArg AV.bool (by cases a; cases b; simp_all)))
 intro h9
 have k9 := J1 h9; try simp only [A6] at k9
 refine C1 (A3 (A3 (A2 ?_)))
 refine A1 rfl (B2 1 rfl G8 rfl F8 (A0 rfl) rfl) ?_
 refine A1 rfl (B1 1 rfl (A0 rfl) rfl I5 rfl) ?_
 refine A1 rfl (B2 1 rfl G8 rfl F8 (A0 rfl) rfl) ?_
 refine A1 rfl (B1 0 rfl (A0 rfl) rfl I5 rfl) ?_
 refine A1 rfl (m1 rfl N5 (A0 rfl) (A0 rfl)) ?_
 refine A4 ?_
 refine C0 (A0 rfl) ?_ ?_
 ·intro h14
  refine A3 (A2 ?_)
  refine A1 rfl (A9 rfl E3) ?_
  refine A4 ?_
  refine B8 ?_
  exact E4 rfl (B7 rfl (by exact congrArg AV.bool (by cases a; cases b; simp_all)))
 intro h14
 refine C1 (A3 (A3 (A2 ?_)))
 refine A1 rfl (B2 2 rfl G8 rfl B9 (A0 rfl) rfl) ?_
 refine A1 rfl (B1 1 rfl (A0 rfl) rfl D2 rfl) ?_
 refine A1 rfl (B2 2 rfl G8 rfl B9 (A0 rfl) rfl) ?_
 refine A1 rfl (B1 0 rfl (A0 rfl) rfl D2 rfl) ?_
 refine A1 rfl (R6 rfl (A0 rfl) (A0 rfl)) ?_
 refine A4 ?_
 refine C0 (A0 rfl) ?_ ?_
 ·intro h19
  have k19 := N6 h19; try simp only [A6] at k19
  refine A3 (A2 ?_)
  refine A1 rfl (A9 rfl E3) ?_
  refine A4 ?_
  refine B8 ?_
  exact E4 rfl (B7 rfl (by exact congrArg AV.bool (by cases a; cases b; simp_all)))
 intro h19
 have k19 := J1 h19; try simp only [A6] at k19
 refine C1 (A3 (A2 ?_))
 refine A1 rfl (A9 rfl E3) ?_
 refine A4 ?_
 refine B8 ?_
 exact E4 rfl (B7 rfl (by exact congrArg AV.bool (by cases a; cases b; simp_all)))
theorem AX4 (l : List TCell) (left : Int) (hok : (∀ x ∈ l, x.ok)) (h0 : 0 ≤ left) (h1 : left ≤ 1048576) : FSpec Tryz.prog 42 [AV.list 2 (l.map TCell.cs), AV.int left] (AV.int (szR (sizeL TCell.size l) left)) := by
 refine D3 Tryz.func42 rfl Tryz.ntmps42 rfl ?_
 refine N7 (t := 0) rfl fun hl => ?_
 try simp only [A6] at hl
 refine A3 (A2 ?_)
 refine A1 rfl (A9 rfl B4) ?_
 refine A4 (A3 (A2 ?_))
 refine A5 rfl ?_
 refine A5 rfl ?_
 refine A1 rfl (E9 rfl P2 (A0 rfl)) ?_
 refine A1 rfl (P4 rfl (A0 rfl) (A0 rfl) (by first | omega | (simp only [D4, B0, szR] at *; omega))) ?_
 refine B3 rfl ?_
 refine A4 (A3 (A3 (A2 ?_)))
 refine A5 rfl ?_
 refine A1 rfl (G0 rfl (A0 rfl) B4) ?_
 refine A4 ?_
 refine C0 (A0 rfl) ?_ ?_
 ·intro h11
  have k11 := of_decide_eq_true h11; try simp only [A6] at k11
  refine A3 (A2 ?_)
  refine A1 rfl (A9 rfl B4) ?_
  refine A4 ?_
  refine B8 ?_
  exact E4 rfl (B7 rfl (by exact congrArg AV.int (by simp only [szR, sizeL, A6, decide_eq_true_eq, decide_eq_false_iff_not] at *; omega)))
 intro h11
 have k11 := of_decide_eq_false h11; try simp only [A6] at k11
 refine C1 (A3 (A3 (A2 ?_)))
 refine A1 rfl (A9 rfl B4) ?_
 refine A4 (C4 ?_)
 refine J8 [(0, _)] _ (fun (i : Nat) (b : Int) => i ≤ l.length ∧ b = left - l.length - (((l.take i).map TCell.size).sum : Nat) ∧ 0 ≤ b) (fun (i : Nat) (b : Int) => []) (fun (i : Nat) (b : Int) => [(1, AV.int b), (5, AV.int i)]) (fun (i : Nat) (b : Int) => l.length - i) (0) (left - ((l.map fun x => TCell.cs x).length : Int)) ?_ (H1 ⟨rfl, rfl, rfl, trivial⟩) ?_
 ·exact ⟨Nat.zero_le _, by simp, by simp only [A6]; omega⟩
 intro i b hinv
 refine A3 (A3 (A2 ?_))
 refine A5 rfl ?_
 refine A5 rfl ?_
 refine A1 rfl (E9 rfl P2 (A0 rfl)) ?_
 refine A1 rfl (G0 rfl (A0 rfl) (A0 rfl)) ?_
 refine A4 ?_
 refine C0 (A0 rfl) ?_ ?_
 ·intro h15
  have k15 := of_decide_eq_true h15; try simp only [A6] at k15
  have hlt : i < l.length := by omega
  obtain ⟨x, hx⟩ := get_some hlt
  have e2 := o8 TCell.size l i x hx
  have hokx := hok x (H4 hx)
  refine C1 (A3 (C4 (A3 (A2 ?_))))
  refine A5 rfl ?_
  refine A5 rfl ?_
  refine A1 rfl (O7 rfl P2 W3 (A0 rfl) (A0 rfl) (by omega) (by simp only [Int.toNat_natCast, List.getElem?_map, hx, Option.map_some]; try rfl)) ?_
  refine A1 rfl (H8 rfl (A0 rfl) Tryz.isAgg134 W3) ?_
  refine A5 rfl ?_
  refine A1 rfl (E1 rfl Tryz.call86 rfl (Ac4 _ _ (by assumption) (by first | omega | (simp only [D4, B0, szR] at *; omega)) (by first | omega | (simp only [D4, B0, szR] at *; omega))) (A8 (A0 rfl) (A8 (A0 rfl) C7))) ?_
  refine B3 rfl ?_
  refine A4 (A3 (A2 ?_))
  refine A5 rfl ?_
  refine A1 rfl (G0 rfl (A0 rfl) B4) ?_
  refine A4 ?_
  refine C0 (A0 rfl) ?_ ?_
  ·intro h25
   have k25 := of_decide_eq_true h25; try simp only [A6] at k25
   refine A3 (A2 ?_)
   refine A1 rfl (A9 rfl B4) ?_
   refine A4 ?_
   refine B8 ?_
   exact E4 rfl (B7 rfl (by exact congrArg AV.int (by simp only [szR, sizeL, A6, decide_eq_true_eq, decide_eq_false_iff_not] at *; omega)))
  intro h25
  have k25 := of_decide_eq_false h25; try simp only [A6] at k25
  refine C1 (A2 ?_)
  refine A5 rfl ?_
  refine A1 rfl (F1 rfl (A0 rfl) B4 (by first | omega | (simp only [D4, B0, szR] at *; omega))) ?_
  refine B3 rfl ?_
  refine A4 ?_
  refine J2 i b (i + 1) ((szR (TCell.size x) b)) ?_ ?_ (H1 ⟨rfl, rfl, rfl, trivial⟩)
  ·exact ⟨by omega, by have e1 := j7 TCell.size l i x hx; simp only [szR, decide_eq_false_iff_not] at *; omega, by omega⟩
  omega
 intro h15
 have k15 := of_decide_eq_false h15; try simp only [A6] at k15
 have hge : l.length ≤ i := by omega
 have e3 : ((l.take i).map TCell.size).sum = (l.map TCell.size).sum := by rw [List.take_of_length_le hge]
 refine F5 ?_
 refine A3 (A2 ?_)
 refine A5 rfl ?_
 refine B3 rfl ?_
 refine A4 ?_
 refine B8 ?_
 exact E4 rfl (B7 rfl (by exact congrArg AV.int (by simp only [szR, sizeL, A6, decide_eq_true_eq, decide_eq_false_iff_not] at *; omega)))
theorem AX5 (l : List TCell) (hs : sizeL TCell.size l ≤ 1048576) : FSpec Tryz.prog 47 [AV.list 2 (l.map TCell.cs)] (AV.list 2 (l.map TCell.cs)) := by
 have hsl : l.length ≤ 1048576 := Nat.le_trans L1 hs
 refine D3 Tryz.func47 rfl Tryz.ntmps47 rfl ?_
 refine A3 (A2 ?_)
 refine A1 rfl (A9 rfl (c3 (sz := 2))) ?_
 refine A4 (A3 (A2 ?_))
 refine A5 rfl ?_
 refine A1 rfl (E9 rfl P2 (A0 rfl)) ?_
 refine V7 (by' := 40) rfl rfl rfl rfl F0 Tryz.type125 rfl rfl rfl rfl rfl rfl (A0 rfl) (A0 rfl) (by simp only [A6]; omega) (by simp only [A6]; omega) ?_
 intro v7
 refine B3 rfl ?_
 refine A4 (A3 (A3 (A2 ?_)))
 refine A1 rfl (A9 rfl B4) ?_
 refine A4 (C4 ?_)
 refine H2 [(0, _), (2, _), (3, _)] _ (fun (i : Nat) => i ≤ l.length) (fun (i : Nat) => [.arr v7 125 2 ((l.take i).map TCell.cs ++ List.replicate (l.length - i) [AV.str [], AV.nils])]) (fun (i : Nat) => [(4, AV.int i)]) (fun (i : Nat) => l.length - i) (0) ?_ (K7 (by simp only [A6]; rfl) ⟨rfl, rfl, rfl, rfl, trivial⟩) ?_
 ·exact Nat.zero_le _
 intro i hinv
 refine A3 (A3 (A2 ?_))
 refine A5 rfl ?_
 refine A5 rfl ?_
 refine A1 rfl (E9 rfl P2 (A0 rfl)) ?_
 refine A1 rfl (G0 rfl (A0 rfl) (A0 rfl)) ?_
 refine A4 ?_
 refine C0 (A0 rfl) ?_ ?_
 ·intro h11
  have k11 := of_decide_eq_true h11; try simp only [A6] at k11
  have hlt : i < l.length := by omega
  obtain ⟨x, hx⟩ := get_some hlt
  have hsx : TCell.size x ≤ 1048576 := Nat.le_trans (Q5 hx) hs
  refine C1 (A3 (C4 (A2 ?_)))
  refine A5 rfl ?_
  refine A5 rfl ?_
  refine A5 rfl ?_
  refine A5 rfl ?_
  refine A1 rfl (O7 rfl P2 W3 (A0 rfl) (A0 rfl) (by omega) (by simp only [Int.toNat_natCast, List.getElem?_map, hx, Option.map_some]; try rfl)) ?_
  refine A1 rfl (H8 rfl (A0 rfl) Tryz.isAgg134 W3) ?_
  refine A1 rfl (E1 rfl Tryz.call88 rfl (Ac5 _ (by first | assumption | omega | (simp only [] at *; omega))) (A8 (A0 rfl) C7)) ?_
  refine A1 rfl (L0 0 rfl F0 E8 (A0 rfl) rfl (A0 rfl) (by omega) (by rw [P6 hinv]; omega)) ?_
  refine R8 0 rfl rfl rfl (A0 rfl) (A0 rfl) (J4 _) rfl E8 rfl (by rw [P6 hinv]; omega) ?_
  refine A4 (A2 ?_)
  refine A5 rfl ?_
  refine A1 rfl (F1 rfl (A0 rfl) B4 (by first | omega | (simp only [D4, B0, szR] at *; omega))) ?_
  refine B3 rfl ?_
  refine A4 ?_
  refine I0 i (i + 1) ?_ ?_ (K7 (by exact congrArg (fun z => [Own.arr v7 125 2 z]) (U9 hx)) ⟨rfl, rfl, rfl, rfl, trivial⟩)
  ·omega
  omega
 intro h11
 have k11 := of_decide_eq_false h11; try simp only [A6] at k11
 have hge : l.length ≤ i := by omega
 rw [V0 hge]
 refine F5 ?_
 refine A3 (A2 ?_)
 refine A5 rfl ?_
 refine B3 rfl ?_
 refine A4 ?_
 refine B8 ?_
 refine e6 0 2 rfl rfl ?_
 exact E4 rfl (B7 rfl (by first | rfl | (refine congrArg AV.bool ?_; simp_all; done)))
theorem AX6 (a b : List TCell) : FSpec Tryz.prog 55 [AV.list 2 (a.map TCell.cs), AV.list 2 (b.map TCell.cs)] (AV.bool (decide (a = b))) := by
 refine D3 Tryz.func55 rfl Tryz.ntmps55 rfl ?_
 refine N7 (t := 0) rfl fun hl => ?_
 try simp only [A6] at hl
 refine A3 (A2 ?_)
 refine A1 rfl (A9 rfl E3) ?_
 refine A4 (A3 (A3 (A2 ?_)))
 refine A5 rfl ?_
 refine A1 rfl (E9 rfl F0 (A0 rfl)) ?_
 refine A5 rfl ?_
 refine A1 rfl (E9 rfl F0 (A0 rfl)) ?_
 refine A1 rfl (R6 rfl (A0 rfl) (A0 rfl)) ?_
 refine A4 ?_
 refine C0 (A0 rfl) ?_ ?_
 ·intro h10
  have k10 := N6 h10; try simp only [A6] at k10
  have hab : a ≠ b := by intro hc; subst hc; exact k10 rfl
  refine A3 (A2 ?_)
  refine A1 rfl (A9 rfl E3) ?_
  refine A4 ?_
  refine B8 ?_
  exact E4 rfl (B7 rfl (by exact congrArg AV.bool (by simp [hab])))
 intro h10
 have k10 := J1 h10; try simp only [A6] at k10
 have heq : a.length = b.length := by omega
 refine C1 (A3 (A3 (A2 ?_)))
 refine A1 rfl (A9 rfl B4) ?_
 refine A4 (C4 ?_)
 refine H2 [(0, _), (1, _)] _ (fun (i : Nat) => i ≤ a.length ∧ a.take i = b.take i) (fun (i : Nat) => []) (fun (i : Nat) => [(5, AV.int i)]) (fun (i : Nat) => a.length - i) (0) ?_ (H1 ⟨rfl, rfl, rfl, trivial⟩) ?_
 ·exact ⟨Nat.zero_le _, rfl⟩
 intro i hinv
 refine A3 (A3 (A2 ?_))
 refine A5 rfl ?_
 refine A5 rfl ?_
 refine A1 rfl (E9 rfl F0 (A0 rfl)) ?_
 refine A1 rfl (G0 rfl (A0 rfl) (A0 rfl)) ?_
 refine A4 ?_
 refine C0 (A0 rfl) ?_ ?_
 ·intro h14
  have k14 := of_decide_eq_true h14; try simp only [A6] at k14
  have hlt : i < a.length := by omega
  obtain ⟨x, hx⟩ := get_some hlt
  obtain ⟨y, hy⟩ := get_some (show i < b.length by omega)
  refine C1 (A3 (C4 (A3 ?_)))
  refine H7 (by kernel_rfl) (by kernel_rfl) rfl ?_
  refine B5 rfl rfl (C2 rfl (A0 rfl)) ?_
  refine B5 rfl rfl (C2 rfl (A0 rfl)) ?_
  refine B5 rfl rfl (O7 rfl F0 E8 (A0 rfl) (A0 rfl) (by omega) (by simp only [Int.toNat_natCast, List.getElem?_map, hx, Option.map_some]; try rfl)) ?_
  refine B5 rfl rfl (H8 rfl (A0 rfl) L9 E8) ?_
  refine B5 rfl rfl (C2 rfl (A0 rfl)) ?_
  refine B5 rfl rfl (C2 rfl (A0 rfl)) ?_
  refine B5 rfl rfl (O7 rfl F0 E8 (A0 rfl) (A0 rfl) (by omega) (by simp only [Int.toNat_natCast, List.getElem?_map, hy, Option.map_some]; try rfl)) ?_
  refine B5 rfl rfl (H8 rfl (A0 rfl) L9 E8) ?_
  refine B5 rfl rfl (E1 rfl Tryz.call95 rfl (Ac6 _ _) (A8 (A0 rfl) (A8 (A0 rfl) C7))) ?_
  refine B5 rfl rfl (J3 rfl (A0 rfl)) ?_
  refine O5 ?_
  refine C0 (A0 rfl) ?_ ?_
  ·intro h26
   have hab : a ≠ b := by intro hc; subst hc; rw [hx] at hy; injection hy with hy; subst hy; simp at h26
   refine A3 (A2 ?_)
   refine A1 rfl (A9 rfl E3) ?_
   refine A4 ?_
   refine B8 ?_
   exact E4 rfl (B7 rfl (by exact congrArg AV.bool (by simp [hab])))
  intro h26
  refine C1 (A2 ?_)
  refine A5 rfl ?_
  refine A1 rfl (F1 rfl (A0 rfl) B4 (by first | omega | (simp only [D4, B0, szR] at *; omega))) ?_
  refine B3 rfl ?_
  refine A4 ?_
  refine I0 i (i + 1) ?_ ?_ (H1 ⟨rfl, rfl, rfl, trivial⟩)
  ·exact ⟨by omega, V5 hinv.2 hx (by rw [hy]; congr 1; simp_all)⟩
  omega
 intro h14
 have k14 := of_decide_eq_false h14; try simp only [A6] at k14
 have hge : a.length ≤ i := by omega
 have hab : a = b := Y1 heq hinv.2 hge
 refine F5 ?_
 refine A3 (A2 ?_)
 refine A1 rfl (A9 rfl E3) ?_
 refine A4 ?_
 refine B8 ?_
 exact E4 rfl (B7 rfl (by exact congrArg AV.bool (by simp [hab])))
theorem AX7 (l : List THeld) (left : Int) (hok : (∀ x ∈ l, x.ok)) (h0 : 0 ≤ left) (h1 : left ≤ 1048576) : FSpec Tryz.prog 43 [AV.list 5 (l.map THeld.cs), AV.int left] (AV.int (szR (sizeL THeld.size l) left)) := by
 refine D3 Tryz.func43 rfl Tryz.ntmps43 rfl ?_
 refine N7 (t := 0) rfl fun hl => ?_
 try simp only [A6] at hl
 refine A3 (A2 ?_)
 refine A1 rfl (A9 rfl B4) ?_
 refine A4 (A3 (A2 ?_))
 refine A5 rfl ?_
 refine A5 rfl ?_
 refine A1 rfl (E9 rfl P3 (A0 rfl)) ?_
 refine A1 rfl (P4 rfl (A0 rfl) (A0 rfl) (by first | omega | (simp only [D4, B0, szR] at *; omega))) ?_
 refine B3 rfl ?_
 refine A4 (A3 (A3 (A2 ?_)))
 refine A5 rfl ?_
 refine A1 rfl (G0 rfl (A0 rfl) B4) ?_
 refine A4 ?_
 refine C0 (A0 rfl) ?_ ?_
 ·intro h11
  have k11 := of_decide_eq_true h11; try simp only [A6] at k11
  refine A3 (A2 ?_)
  refine A1 rfl (A9 rfl B4) ?_
  refine A4 ?_
  refine B8 ?_
  exact E4 rfl (B7 rfl (by exact congrArg AV.int (by simp only [szR, sizeL, A6, decide_eq_true_eq, decide_eq_false_iff_not] at *; omega)))
 intro h11
 have k11 := of_decide_eq_false h11; try simp only [A6] at k11
 refine C1 (A3 (A3 (A2 ?_)))
 refine A1 rfl (A9 rfl B4) ?_
 refine A4 (C4 ?_)
 refine J8 [(0, _)] _ (fun (i : Nat) (b : Int) => i ≤ l.length ∧ b = left - l.length - (((l.take i).map THeld.size).sum : Nat) ∧ 0 ≤ b) (fun (i : Nat) (b : Int) => []) (fun (i : Nat) (b : Int) => [(1, AV.int b), (5, AV.int i)]) (fun (i : Nat) (b : Int) => l.length - i) (0) (left - ((l.map fun x => THeld.cs x).length : Int)) ?_ (H1 ⟨rfl, rfl, rfl, trivial⟩) ?_
 ·exact ⟨Nat.zero_le _, by simp, by simp only [A6]; omega⟩
 intro i b hinv
 refine A3 (A3 (A2 ?_))
 refine A5 rfl ?_
 refine A5 rfl ?_
 refine A1 rfl (E9 rfl P3 (A0 rfl)) ?_
 refine A1 rfl (G0 rfl (A0 rfl) (A0 rfl)) ?_
 refine A4 ?_
 refine C0 (A0 rfl) ?_ ?_
 ·intro h15
  have k15 := of_decide_eq_true h15; try simp only [A6] at k15
  have hlt : i < l.length := by omega
  obtain ⟨x, hx⟩ := get_some hlt
  have e2 := o8 THeld.size l i x hx
  have hokx := hok x (H4 hx)
  refine C1 (A3 (C4 (A3 (A2 ?_))))
  refine A5 rfl ?_
  refine A5 rfl ?_
  refine A1 rfl (O7 rfl P3 W4 (A0 rfl) (A0 rfl) (by omega) (by simp only [Int.toNat_natCast, List.getElem?_map, hx, Option.map_some]; try rfl)) ?_
  refine A1 rfl (H8 rfl (A0 rfl) Tryz.isAgg138 W4) ?_
  refine A5 rfl ?_
  refine A1 rfl (E1 rfl Tryz.call87 rfl (Ac7 _ _ (by assumption) (by first | omega | (simp only [D4, B0, szR] at *; omega)) (by first | omega | (simp only [D4, B0, szR] at *; omega))) (A8 (A0 rfl) (A8 (A0 rfl) C7))) ?_
  refine B3 rfl ?_
  refine A4 (A3 (A2 ?_))
  refine A5 rfl ?_
  refine A1 rfl (G0 rfl (A0 rfl) B4) ?_
  refine A4 ?_
  refine C0 (A0 rfl) ?_ ?_
  ·intro h25
   have k25 := of_decide_eq_true h25; try simp only [A6] at k25
   refine A3 (A2 ?_)
   refine A1 rfl (A9 rfl B4) ?_
   refine A4 ?_
   refine B8 ?_
   exact E4 rfl (B7 rfl (by exact congrArg AV.int (by simp only [szR, sizeL, A6, decide_eq_true_eq, decide_eq_false_iff_not] at *; omega)))
  intro h25
  have k25 := of_decide_eq_false h25; try simp only [A6] at k25
  refine C1 (A2 ?_)
  refine A5 rfl ?_
  refine A1 rfl (F1 rfl (A0 rfl) B4 (by first | omega | (simp only [D4, B0, szR] at *; omega))) ?_
  refine B3 rfl ?_
  refine A4 ?_
  refine J2 i b (i + 1) ((szR (THeld.size x) b)) ?_ ?_ (H1 ⟨rfl, rfl, rfl, trivial⟩)
  ·exact ⟨by omega, by have e1 := j7 THeld.size l i x hx; simp only [szR, decide_eq_false_iff_not] at *; omega, by omega⟩
  omega
 intro h15
 have k15 := of_decide_eq_false h15; try simp only [A6] at k15
 have hge : l.length ≤ i := by omega
 have e3 : ((l.take i).map THeld.size).sum = (l.map THeld.size).sum := by rw [List.take_of_length_le hge]
 refine F5 ?_
 refine A3 (A2 ?_)
 refine A5 rfl ?_
 refine B3 rfl ?_
 refine A4 ?_
 refine B8 ?_
 exact E4 rfl (B7 rfl (by exact congrArg AV.int (by simp only [szR, sizeL, A6, decide_eq_true_eq, decide_eq_false_iff_not] at *; omega)))
theorem AX8 (l : List THeld) (hs : sizeL THeld.size l ≤ 1048576) : FSpec Tryz.prog 48 [AV.list 5 (l.map THeld.cs)] (AV.list 5 (l.map THeld.cs)) := by
 have hsl : l.length ≤ 1048576 := Nat.le_trans L1 hs
 refine D3 Tryz.func48 rfl Tryz.ntmps48 rfl ?_
 refine A3 (A2 ?_)
 refine A1 rfl (A9 rfl (c3 (sz := 5))) ?_
 refine A4 (A3 (A2 ?_))
 refine A5 rfl ?_
 refine A1 rfl (E9 rfl P3 (A0 rfl)) ?_
 refine V7 (by' := 72) rfl rfl rfl rfl F6 Tryz.type141 rfl rfl rfl rfl rfl rfl (A0 rfl) (A0 rfl) (by simp only [A6]; omega) (by simp only [A6]; omega) ?_
 intro v7
 refine B3 rfl ?_
 refine A4 (A3 (A3 (A2 ?_)))
 refine A1 rfl (A9 rfl B4) ?_
 refine A4 (C4 ?_)
 refine H2 [(0, _), (2, _), (3, _)] _ (fun (i : Nat) => i ≤ l.length) (fun (i : Nat) => [.arr v7 141 5 ((l.take i).map THeld.cs ++ List.replicate (l.length - i) [AV.int 0, AV.int 0, AV.int 0, AV.nils, AV.nils])]) (fun (i : Nat) => [(4, AV.int i)]) (fun (i : Nat) => l.length - i) (0) ?_ (K7 (by simp only [A6]; rfl) ⟨rfl, rfl, rfl, rfl, trivial⟩) ?_
 ·exact Nat.zero_le _
 intro i hinv
 refine A3 (A3 (A2 ?_))
 refine A5 rfl ?_
 refine A5 rfl ?_
 refine A1 rfl (E9 rfl P3 (A0 rfl)) ?_
 refine A1 rfl (G0 rfl (A0 rfl) (A0 rfl)) ?_
 refine A4 ?_
 refine C0 (A0 rfl) ?_ ?_
 ·intro h11
  have k11 := of_decide_eq_true h11; try simp only [A6] at k11
  have hlt : i < l.length := by omega
  obtain ⟨x, hx⟩ := get_some hlt
  have hsx : THeld.size x ≤ 1048576 := Nat.le_trans (Q5 hx) hs
  refine C1 (A3 (C4 (A2 ?_)))
  refine A5 rfl ?_
  refine A5 rfl ?_
  refine A5 rfl ?_
  refine A5 rfl ?_
  refine A1 rfl (O7 rfl P3 W4 (A0 rfl) (A0 rfl) (by omega) (by simp only [Int.toNat_natCast, List.getElem?_map, hx, Option.map_some]; try rfl)) ?_
  refine A1 rfl (H8 rfl (A0 rfl) Tryz.isAgg138 W4) ?_
  refine A1 rfl (E1 rfl Tryz.call89 rfl (Ac8 _ (by first | assumption | omega | (simp only [] at *; omega))) (A8 (A0 rfl) C7)) ?_
  refine A1 rfl (L0 0 rfl F6 E6 (A0 rfl) rfl (A0 rfl) (by omega) (by rw [P6 hinv]; omega)) ?_
  refine R8 0 rfl rfl rfl (A0 rfl) (A0 rfl) (J4 _) rfl E6 rfl (by rw [P6 hinv]; omega) ?_
  refine A4 (A2 ?_)
  refine A5 rfl ?_
  refine A1 rfl (F1 rfl (A0 rfl) B4 (by first | omega | (simp only [D4, B0, szR] at *; omega))) ?_
  refine B3 rfl ?_
  refine A4 ?_
  refine I0 i (i + 1) ?_ ?_ (K7 (by exact congrArg (fun z => [Own.arr v7 141 5 z]) (U9 hx)) ⟨rfl, rfl, rfl, rfl, trivial⟩)
  ·omega
  omega
 intro h11
 have k11 := of_decide_eq_false h11; try simp only [A6] at k11
 have hge : l.length ≤ i := by omega
 rw [V0 hge]
 refine F5 ?_
 refine A3 (A2 ?_)
 refine A5 rfl ?_
 refine B3 rfl ?_
 refine A4 ?_
 refine B8 ?_
 refine e6 0 2 rfl rfl ?_
 exact E4 rfl (B7 rfl (by first | rfl | (refine congrArg AV.bool ?_; simp_all; done)))
theorem AX9 (a b : List THeld) : FSpec Tryz.prog 56 [AV.list 5 (a.map THeld.cs), AV.list 5 (b.map THeld.cs)] (AV.bool (decide (a = b))) := by
 refine D3 Tryz.func56 rfl Tryz.ntmps56 rfl ?_
 refine N7 (t := 0) rfl fun hl => ?_
 try simp only [A6] at hl
 refine A3 (A2 ?_)
 refine A1 rfl (A9 rfl E3) ?_
 refine A4 (A3 (A3 (A2 ?_)))
 refine A5 rfl ?_
 refine A1 rfl (E9 rfl F6 (A0 rfl)) ?_
 refine A5 rfl ?_
 refine A1 rfl (E9 rfl F6 (A0 rfl)) ?_
 refine A1 rfl (R6 rfl (A0 rfl) (A0 rfl)) ?_
 refine A4 ?_
 refine C0 (A0 rfl) ?_ ?_
 ·intro h10
  have k10 := N6 h10; try simp only [A6] at k10
  have hab : a ≠ b := by intro hc; subst hc; exact k10 rfl
  refine A3 (A2 ?_)
  refine A1 rfl (A9 rfl E3) ?_
  refine A4 ?_
  refine B8 ?_
  exact E4 rfl (B7 rfl (by exact congrArg AV.bool (by simp [hab])))
 intro h10
 have k10 := J1 h10; try simp only [A6] at k10
 have heq : a.length = b.length := by omega
 refine C1 (A3 (A3 (A2 ?_)))
 refine A1 rfl (A9 rfl B4) ?_
 refine A4 (C4 ?_)
 refine H2 [(0, _), (1, _)] _ (fun (i : Nat) => i ≤ a.length ∧ a.take i = b.take i) (fun (i : Nat) => []) (fun (i : Nat) => [(5, AV.int i)]) (fun (i : Nat) => a.length - i) (0) ?_ (H1 ⟨rfl, rfl, rfl, trivial⟩) ?_
 ·exact ⟨Nat.zero_le _, rfl⟩
 intro i hinv
 refine A3 (A3 (A2 ?_))
 refine A5 rfl ?_
 refine A5 rfl ?_
 refine A1 rfl (E9 rfl F6 (A0 rfl)) ?_
 refine A1 rfl (G0 rfl (A0 rfl) (A0 rfl)) ?_
 refine A4 ?_
 refine C0 (A0 rfl) ?_ ?_
 ·intro h14
  have k14 := of_decide_eq_true h14; try simp only [A6] at k14
  have hlt : i < a.length := by omega
  obtain ⟨x, hx⟩ := get_some hlt
  obtain ⟨y, hy⟩ := get_some (show i < b.length by omega)
  refine C1 (A3 (C4 (A3 ?_)))
  refine H7 (by kernel_rfl) (by kernel_rfl) rfl ?_
  refine B5 rfl rfl (C2 rfl (A0 rfl)) ?_
  refine B5 rfl rfl (C2 rfl (A0 rfl)) ?_
  refine B5 rfl rfl (O7 rfl F6 E6 (A0 rfl) (A0 rfl) (by omega) (by simp only [Int.toNat_natCast, List.getElem?_map, hx, Option.map_some]; try rfl)) ?_
  refine B5 rfl rfl (H8 rfl (A0 rfl) K4 E6) ?_
  refine B5 rfl rfl (C2 rfl (A0 rfl)) ?_
  refine B5 rfl rfl (C2 rfl (A0 rfl)) ?_
  refine B5 rfl rfl (O7 rfl F6 E6 (A0 rfl) (A0 rfl) (by omega) (by simp only [Int.toNat_natCast, List.getElem?_map, hy, Option.map_some]; try rfl)) ?_
  refine B5 rfl rfl (H8 rfl (A0 rfl) K4 E6) ?_
  refine B5 rfl rfl (E1 rfl Tryz.call96 rfl (Ac9 _ _) (A8 (A0 rfl) (A8 (A0 rfl) C7))) ?_
  refine B5 rfl rfl (J3 rfl (A0 rfl)) ?_
  refine O5 ?_
  refine C0 (A0 rfl) ?_ ?_
  ·intro h26
   have hab : a ≠ b := by intro hc; subst hc; rw [hx] at hy; injection hy with hy; subst hy; simp at h26
   refine A3 (A2 ?_)
   refine A1 rfl (A9 rfl E3) ?_
   refine A4 ?_
   refine B8 ?_
   exact E4 rfl (B7 rfl (by exact congrArg AV.bool (by simp [hab])))
  intro h26
  refine C1 (A2 ?_)
  refine A5 rfl ?_
  refine A1 rfl (F1 rfl (A0 rfl) B4 (by first | omega | (simp only [D4, B0, szR] at *; omega))) ?_
  refine B3 rfl ?_
  refine A4 ?_
  refine I0 i (i + 1) ?_ ?_ (H1 ⟨rfl, rfl, rfl, trivial⟩)
  ·exact ⟨by omega, V5 hinv.2 hx (by rw [hy]; congr 1; simp_all)⟩
  omega
 intro h14
 have k14 := of_decide_eq_false h14; try simp only [A6] at k14
 have hge : a.length ≤ i := by omega
 have hab : a = b := Y1 heq hinv.2 hge
 refine F5 ?_
 refine A3 (A2 ?_)
 refine A1 rfl (A9 rfl E3) ?_
 refine A4 ?_
 refine B8 ?_
 exact E4 rfl (B7 rfl (by exact congrArg AV.bool (by simp [hab])))
theorem AY0 (l : List TTold) (left : Int) (hok : True) (h0 : 0 ≤ left) (h1 : left ≤ 1048576) : FSpec Tryz.prog 44 [AV.list 3 (l.map TTold.cs), AV.int left] (AV.int (szR l.length left)) := by
 refine D3 Tryz.func44 rfl Tryz.ntmps44 rfl ?_
 refine N7 (t := 0) rfl fun hl => ?_
 try simp only [A6] at hl
 refine A3 (A2 ?_)
 refine A1 rfl (A9 rfl B4) ?_
 refine A4 (A3 (A2 ?_))
 refine A5 rfl ?_
 refine A5 rfl ?_
 refine A1 rfl (E9 rfl Q9 (A0 rfl)) ?_
 refine A1 rfl (P4 rfl (A0 rfl) (A0 rfl) (by first | omega | (simp only [D4, B0, szR] at *; omega))) ?_
 refine B3 rfl ?_
 refine A4 (A3 (A3 (A2 ?_)))
 refine A5 rfl ?_
 refine A1 rfl (G0 rfl (A0 rfl) B4) ?_
 refine A4 ?_
 refine C0 (A0 rfl) ?_ ?_
 ·intro h10
  have k10 := of_decide_eq_true h10; try simp only [A6] at k10
  refine A3 (A2 ?_)
  refine A1 rfl (A9 rfl B4) ?_
  refine A4 ?_
  refine B8 ?_
  exact E4 rfl (B7 rfl (by exact congrArg AV.int (by simp only [szR, A6, decide_eq_true_eq, decide_eq_false_iff_not] at *; omega)))
 intro h10
 have k10 := of_decide_eq_false h10; try simp only [A6] at k10
 refine C1 (A3 (A2 ?_))
 refine A5 rfl ?_
 refine B3 rfl ?_
 refine A4 ?_
 refine B8 ?_
 exact E4 rfl (B7 rfl (by exact congrArg AV.int (by simp only [szR, A6, decide_eq_true_eq, decide_eq_false_iff_not] at *; omega)))
theorem AY1 (l : List TTold) (hs : l.length ≤ 1048576) : FSpec Tryz.prog 49 [AV.list 3 (l.map TTold.cs)] (AV.list 3 (l.map TTold.cs)) := by
 have hsl : l.length ≤ 1048576 := hs
 refine D3 Tryz.func49 rfl Tryz.ntmps49 rfl ?_
 refine A3 (A2 ?_)
 refine A1 rfl (A9 rfl (c3 (sz := 3))) ?_
 refine A4 (A3 (A2 ?_))
 refine A5 rfl ?_
 refine A1 rfl (E9 rfl Q9 (A0 rfl)) ?_
 refine V7 (by' := 24) rfl rfl rfl rfl J0 Tryz.type144 rfl rfl rfl rfl rfl rfl (A0 rfl) (A0 rfl) (by simp only [A6]; omega) (by simp only [A6]; omega) ?_
 intro v7
 refine B3 rfl ?_
 refine A4 (A3 (A3 (A2 ?_)))
 refine A1 rfl (A9 rfl B4) ?_
 refine A4 (C4 ?_)
 refine H2 [(0, _), (2, _), (3, _)] _ (fun (i : Nat) => i ≤ l.length) (fun (i : Nat) => [.arr v7 144 3 ((l.take i).map TTold.cs ++ List.replicate (l.length - i) [AV.int 0, AV.bool false, AV.int 0])]) (fun (i : Nat) => [(4, AV.int i)]) (fun (i : Nat) => l.length - i) (0) ?_ (K7 (by simp only [A6]; rfl) ⟨rfl, rfl, rfl, rfl, trivial⟩) ?_
 ·exact Nat.zero_le _
 intro i hinv
 refine A3 (A3 (A2 ?_))
 refine A5 rfl ?_
 refine A5 rfl ?_
 refine A1 rfl (E9 rfl Q9 (A0 rfl)) ?_
 refine A1 rfl (G0 rfl (A0 rfl) (A0 rfl)) ?_
 refine A4 ?_
 refine C0 (A0 rfl) ?_ ?_
 ·intro h11
  have k11 := of_decide_eq_true h11; try simp only [A6] at k11
  have hlt : i < l.length := by omega
  obtain ⟨x, hx⟩ := get_some hlt
  have hsx : x.size ≤ 1048576 := Nat.zero_le _
  refine C1 (A3 (C4 (A2 ?_)))
  refine A5 rfl ?_
  refine A5 rfl ?_
  refine A5 rfl ?_
  refine A5 rfl ?_
  refine A1 rfl (O7 rfl Q9 Tryz.sizeOf146 (A0 rfl) (A0 rfl) (by omega) (by simp only [Int.toNat_natCast, List.getElem?_map, hx, Option.map_some]; try rfl)) ?_
  refine A1 rfl (H8 rfl (A0 rfl) Tryz.isAgg146 Tryz.sizeOf146) ?_
  refine A1 rfl (E1 rfl Tryz.call90 rfl (AF6 _ (by first | assumption | omega | (simp only [] at *; omega))) (A8 (A0 rfl) C7)) ?_
  refine A1 rfl (L0 0 rfl J0 K3 (A0 rfl) rfl (A0 rfl) (by omega) (by rw [P6 hinv]; omega)) ?_
  refine R8 0 rfl rfl rfl (A0 rfl) (A0 rfl) (J4 _) rfl K3 rfl (by rw [P6 hinv]; omega) ?_
  refine A4 (A2 ?_)
  refine A5 rfl ?_
  refine A1 rfl (F1 rfl (A0 rfl) B4 (by first | omega | (simp only [D4, B0, szR] at *; omega))) ?_
  refine B3 rfl ?_
  refine A4 ?_
  refine I0 i (i + 1) ?_ ?_ (K7 (by exact congrArg (fun z => [Own.arr v7 144 3 z]) (U9 hx)) ⟨rfl, rfl, rfl, rfl, trivial⟩)
  ·omega
  omega
 intro h11
 have k11 := of_decide_eq_false h11; try simp only [A6] at k11
 have hge : l.length ≤ i := by omega
 rw [V0 hge]
 refine F5 ?_
 refine A3 (A2 ?_)
 refine A5 rfl ?_
 refine B3 rfl ?_
 refine A4 ?_
 refine B8 ?_
 refine e6 0 2 rfl rfl ?_
 exact E4 rfl (B7 rfl (by first | rfl | (refine congrArg AV.bool ?_; simp_all; done)))
theorem AY2 (a b : List TTold) : FSpec Tryz.prog 57 [AV.list 3 (a.map TTold.cs), AV.list 3 (b.map TTold.cs)] (AV.bool (decide (a = b))) := by
 refine D3 Tryz.func57 rfl Tryz.ntmps57 rfl ?_
 refine N7 (t := 0) rfl fun hl => ?_
 try simp only [A6] at hl
 refine A3 (A2 ?_)
 refine A1 rfl (A9 rfl E3) ?_
 refine A4 (A3 (A3 (A2 ?_)))
 refine A5 rfl ?_
 refine A1 rfl (E9 rfl J0 (A0 rfl)) ?_
 refine A5 rfl ?_
 refine A1 rfl (E9 rfl J0 (A0 rfl)) ?_
 refine A1 rfl (R6 rfl (A0 rfl) (A0 rfl)) ?_
 refine A4 ?_
 refine C0 (A0 rfl) ?_ ?_
 ·intro h10
  have k10 := N6 h10; try simp only [A6] at k10
  have hab : a ≠ b := by intro hc; subst hc; exact k10 rfl
  refine A3 (A2 ?_)
  refine A1 rfl (A9 rfl E3) ?_
  refine A4 ?_
  refine B8 ?_
  exact E4 rfl (B7 rfl (by exact congrArg AV.bool (by simp [hab])))
 intro h10
 have k10 := J1 h10; try simp only [A6] at k10
 have heq : a.length = b.length := by omega
 refine C1 (A3 (A3 (A2 ?_)))
 refine A1 rfl (A9 rfl B4) ?_
 refine A4 (C4 ?_)
 refine H2 [(0, _), (1, _)] _ (fun (i : Nat) => i ≤ a.length ∧ a.take i = b.take i) (fun (i : Nat) => []) (fun (i : Nat) => [(5, AV.int i)]) (fun (i : Nat) => a.length - i) (0) ?_ (H1 ⟨rfl, rfl, rfl, trivial⟩) ?_
 ·exact ⟨Nat.zero_le _, rfl⟩
 intro i hinv
 refine A3 (A3 (A2 ?_))
 refine A5 rfl ?_
 refine A5 rfl ?_
 refine A1 rfl (E9 rfl J0 (A0 rfl)) ?_
 refine A1 rfl (G0 rfl (A0 rfl) (A0 rfl)) ?_
 refine A4 ?_
 refine C0 (A0 rfl) ?_ ?_
 ·intro h14
  have k14 := of_decide_eq_true h14; try simp only [A6] at k14
  have hlt : i < a.length := by omega
  obtain ⟨x, hx⟩ := get_some hlt
  obtain ⟨y, hy⟩ := get_some (show i < b.length by omega)
  refine C1 (A3 (C4 (A3 ?_)))
  refine H7 (by kernel_rfl) (by kernel_rfl) rfl ?_
  refine B5 rfl rfl (C2 rfl (A0 rfl)) ?_
  refine B5 rfl rfl (C2 rfl (A0 rfl)) ?_
  refine B5 rfl rfl (O7 rfl J0 K3 (A0 rfl) (A0 rfl) (by omega) (by simp only [Int.toNat_natCast, List.getElem?_map, hx, Option.map_some]; try rfl)) ?_
  refine B5 rfl rfl (H8 rfl (A0 rfl) X6 K3) ?_
  refine B5 rfl rfl (C2 rfl (A0 rfl)) ?_
  refine B5 rfl rfl (C2 rfl (A0 rfl)) ?_
  refine B5 rfl rfl (O7 rfl J0 K3 (A0 rfl) (A0 rfl) (by omega) (by simp only [Int.toNat_natCast, List.getElem?_map, hy, Option.map_some]; try rfl)) ?_
  refine B5 rfl rfl (H8 rfl (A0 rfl) X6 K3) ?_
  refine B5 rfl rfl (E1 rfl Tryz.call97 rfl (Ad0 _ _) (A8 (A0 rfl) (A8 (A0 rfl) C7))) ?_
  refine B5 rfl rfl (J3 rfl (A0 rfl)) ?_
  refine O5 ?_
  refine C0 (A0 rfl) ?_ ?_
  ·intro h26
   have hab : a ≠ b := by intro hc; subst hc; rw [hx] at hy; injection hy with hy; subst hy; simp at h26
   refine A3 (A2 ?_)
   refine A1 rfl (A9 rfl E3) ?_
   refine A4 ?_
   refine B8 ?_
   exact E4 rfl (B7 rfl (by exact congrArg AV.bool (by simp [hab])))
  intro h26
  refine C1 (A2 ?_)
  refine A5 rfl ?_
  refine A1 rfl (F1 rfl (A0 rfl) B4 (by first | omega | (simp only [D4, B0, szR] at *; omega))) ?_
  refine B3 rfl ?_
  refine A4 ?_
  refine I0 i (i + 1) ?_ ?_ (H1 ⟨rfl, rfl, rfl, trivial⟩)
  ·exact ⟨by omega, V5 hinv.2 hx (by rw [hy]; congr 1; simp_all)⟩
  omega
 intro h14
 have k14 := of_decide_eq_false h14; try simp only [A6] at k14
 have hge : a.length ≤ i := by omega
 have hab : a = b := Y1 heq hinv.2 hge
 refine F5 ?_
 refine A3 (A2 ?_)
 refine A1 rfl (A9 rfl E3) ?_
 refine A4 ?_
 refine B8 ?_
 exact E4 rfl (B7 rfl (by exact congrArg AV.bool (by simp [hab])))
theorem AY3 (a : TState) (left : Int) (hok : a.ok) (h0 : 0 ≤ left) (h1 : left ≤ 1048576) : FSpec Tryz.prog 14 [AV.agg a.cs, AV.int left] (AV.int (szR a.size left)) := by
 obtain ⟨oCells, oHeld⟩ := hok
 refine D3 Tryz.func14 rfl Tryz.ntmps14 rfl ?_
 refine A3 (A2 ?_)
 refine I8 rfl rfl rfl rfl (A0 rfl) ?_
 intro b2
 refine A1 rfl (A9 rfl B4) ?_
 refine A4 (A3 (A2 ?_))
 refine A1 rfl (B2 1 rfl N0 rfl Tryz.sizeOf30 (A0 rfl) rfl) ?_
 refine A1 rfl (B1 0 rfl (A0 rfl) rfl Tryz.isAgg30 rfl) ?_
 refine A5 rfl ?_
 refine A1 rfl (E1 rfl Tryz.call42 rfl (AX4 _ _ (by first | assumption | trivial) (by first | omega | (simp only [D4, B0, szR] at *; omega)) (by first | omega | (simp only [D4, B0, szR] at *; omega))) (A8 (A0 rfl) (A8 (A0 rfl) C7))) ?_
 refine B3 rfl ?_
 refine A4 (A3 (A3 (A2 ?_)))
 refine A5 rfl ?_
 refine A1 rfl (G0 rfl (A0 rfl) B4) ?_
 refine A4 ?_
 refine C0 (A0 rfl) ?_ ?_
 ·intro h10
  have k10 := of_decide_eq_true h10; try simp only [A6] at k10
  refine A3 (A2 ?_)
  refine A1 rfl (A9 rfl B4) ?_
  refine A4 ?_
  refine B8 ?_
  exact E4 rfl (B7 rfl (by exact congrArg AV.int (by simp only [szR, TState.size, decide_eq_true_eq, decide_eq_false_iff_not] at *; omega)))
 intro h10
 have k10 := of_decide_eq_false h10; try simp only [A6] at k10
 refine C1 (A3 (A2 ?_))
 refine A1 rfl (B2 2 rfl N0 rfl Tryz.sizeOf31 (A0 rfl) rfl) ?_
 refine A1 rfl (B1 0 rfl (A0 rfl) rfl Tryz.isAgg31 rfl) ?_
 refine A5 rfl ?_
 refine A1 rfl (E1 rfl Tryz.call43 rfl (AX7 _ _ (by first | assumption | trivial) (by first | omega | (simp only [D4, B0, szR] at *; omega)) (by first | omega | (simp only [D4, B0, szR] at *; omega))) (A8 (A0 rfl) (A8 (A0 rfl) C7))) ?_
 refine B3 rfl ?_
 refine A4 (A3 (A3 (A2 ?_)))
 refine A5 rfl ?_
 refine A1 rfl (G0 rfl (A0 rfl) B4) ?_
 refine A4 ?_
 refine C0 (A0 rfl) ?_ ?_
 ·intro h16
  have k16 := of_decide_eq_true h16; try simp only [A6] at k16
  refine A3 (A2 ?_)
  refine A1 rfl (A9 rfl B4) ?_
  refine A4 ?_
  refine B8 ?_
  exact E4 rfl (B7 rfl (by exact congrArg AV.int (by simp only [szR, TState.size, decide_eq_true_eq, decide_eq_false_iff_not] at *; omega)))
 intro h16
 have k16 := of_decide_eq_false h16; try simp only [A6] at k16
 refine C1 (A3 (A2 ?_))
 refine A1 rfl (B2 3 rfl N0 rfl Tryz.sizeOf32 (A0 rfl) rfl) ?_
 refine A1 rfl (B1 0 rfl (A0 rfl) rfl Tryz.isAgg32 rfl) ?_
 refine A5 rfl ?_
 refine A1 rfl (E1 rfl Tryz.call44 rfl (AY0 _ _ (by first | assumption | trivial) (by first | omega | (simp only [D4, B0, szR] at *; omega)) (by first | omega | (simp only [D4, B0, szR] at *; omega))) (A8 (A0 rfl) (A8 (A0 rfl) C7))) ?_
 refine B3 rfl ?_
 refine A4 (A3 (A3 (A2 ?_)))
 refine A5 rfl ?_
 refine A1 rfl (G0 rfl (A0 rfl) B4) ?_
 refine A4 ?_
 refine C0 (A0 rfl) ?_ ?_
 ·intro h22
  have k22 := of_decide_eq_true h22; try simp only [A6] at k22
  refine A3 (A2 ?_)
  refine A1 rfl (A9 rfl B4) ?_
  refine A4 ?_
  refine B8 ?_
  exact E4 rfl (B7 rfl (by exact congrArg AV.int (by simp only [szR, TState.size, decide_eq_true_eq, decide_eq_false_iff_not] at *; omega)))
 intro h22
 have k22 := of_decide_eq_false h22; try simp only [A6] at k22
 refine C1 (A3 (A2 ?_))
 refine A5 rfl ?_
 refine B3 rfl ?_
 refine A4 ?_
 refine B8 ?_
 exact E4 rfl (B7 rfl (by exact congrArg AV.int (by simp only [szR, TState.size, decide_eq_true_eq, decide_eq_false_iff_not] at *; omega)))
theorem p6 (a : TState) (hs : a.size ≤ 1048576) : FSpec Tryz.prog 16 [AV.agg a.cs] (AV.agg a.cs) := by
 unfold TState.size at hs
 refine D3 Tryz.func16 rfl Tryz.ntmps16 rfl ?_
 refine A3 (A2 ?_)
 refine I8 rfl rfl rfl rfl (A0 rfl) ?_
 intro b1
 refine I1 rfl rfl rfl rfl Tryz.zeroValue43 rfl ?_
 intro b2
 refine A4 (A3 (A2 ?_))
 refine I1 rfl rfl rfl rfl Tryz.zeroValue43 rfl ?_
 intro b3
 refine A4 (A3 (A2 ?_))
 refine A1 rfl (B2 0 rfl N0 rfl B9 (A0 rfl) rfl) ?_
 refine A1 rfl (B1 2 rfl (A0 rfl) rfl D2 rfl) ?_
 refine A1 rfl (B2 0 rfl E2 rfl B9 (A0 rfl) rfl) ?_
 refine J6 0 rfl rfl rfl (A0 rfl) (A0 rfl) (P9 _ _) rfl B9 rfl ?_
 refine A4 (A3 (A2 ?_))
 refine A1 rfl (B2 1 rfl N0 rfl Tryz.sizeOf30 (A0 rfl) rfl) ?_
 refine A1 rfl (B1 2 rfl (A0 rfl) rfl Tryz.isAgg30 rfl) ?_
 refine A1 rfl (E1 rfl Tryz.call47 rfl (AX5 _ (by first | assumption | omega)) (A8 (A0 rfl) C7)) ?_
 refine A1 rfl (B2 1 rfl E2 rfl K5 (A0 rfl) rfl) ?_
 refine J6 0 rfl rfl rfl (A0 rfl) (A0 rfl) (Z0 _ _) rfl K5 rfl ?_
 refine A4 (A3 (A2 ?_))
 refine A1 rfl (B2 2 rfl N0 rfl Tryz.sizeOf31 (A0 rfl) rfl) ?_
 refine A1 rfl (B1 2 rfl (A0 rfl) rfl Tryz.isAgg31 rfl) ?_
 refine A1 rfl (E1 rfl Tryz.call48 rfl (AX8 _ (by first | assumption | omega)) (A8 (A0 rfl) C7)) ?_
 refine A1 rfl (B2 2 rfl E2 rfl M1 (A0 rfl) rfl) ?_
 refine J6 0 rfl rfl rfl (A0 rfl) (A0 rfl) (Z0 _ _) rfl M1 rfl ?_
 refine A4 (A3 (A2 ?_))
 refine A1 rfl (B2 3 rfl N0 rfl Tryz.sizeOf32 (A0 rfl) rfl) ?_
 refine A1 rfl (B1 2 rfl (A0 rfl) rfl Tryz.isAgg32 rfl) ?_
 refine A1 rfl (E1 rfl Tryz.call49 rfl (AY1 _ (by first | assumption | omega)) (A8 (A0 rfl) C7)) ?_
 refine A1 rfl (B2 3 rfl E2 rfl P7 (A0 rfl) rfl) ?_
 refine J6 0 rfl rfl rfl (A0 rfl) (A0 rfl) (Z0 _ _) rfl P7 rfl ?_
 refine A4 (A3 (A2 ?_))
 refine A1 rfl (K8 0 rfl (A0 rfl) rfl O0 L3 rfl) ?_
 refine H9 1 rfl rfl rfl (A0 rfl) (A0 rfl) (J4 _) rfl L3 rfl ?_
 refine A4 ?_
 refine B8 ?_
 exact E4 rfl (V2 (ys := _) 1 rfl rfl O0 L3 rfl)
theorem AY4 (a b : TState) : FSpec Tryz.prog 19 [AV.agg a.cs, AV.agg b.cs] (AV.bool (decide (a = b))) := by
 refine D3 Tryz.func19 rfl Tryz.ntmps19 rfl ?_
 refine A3 (A2 ?_)
 refine I8 rfl rfl rfl rfl (A0 rfl) ?_
 intro b2
 refine I8 rfl rfl rfl rfl (A0 rfl) ?_
 intro b3
 refine A1 rfl (A9 rfl E3) ?_
 refine A4 (A3 (A3 (A2 ?_)))
 refine A1 rfl (B2 0 rfl E2 rfl B9 (A0 rfl) rfl) ?_
 refine A1 rfl (B1 1 rfl (A0 rfl) rfl D2 rfl) ?_
 refine A1 rfl (B2 0 rfl E2 rfl B9 (A0 rfl) rfl) ?_
 refine A1 rfl (B1 0 rfl (A0 rfl) rfl D2 rfl) ?_
 refine A1 rfl (R6 rfl (A0 rfl) (A0 rfl)) ?_
 refine A4 ?_
 refine C0 (A0 rfl) ?_ ?_
 ·intro h9
  have k9 := N6 h9; try simp only [A6] at k9
  refine A3 (A2 ?_)
  refine A1 rfl (A9 rfl E3) ?_
  refine A4 ?_
  refine B8 ?_
  exact E4 rfl (B7 rfl (by exact congrArg AV.bool (by cases a; cases b; simp_all)))
 intro h9
 have k9 := J1 h9; try simp only [A6] at k9
 refine C1 (A3 (A3 (A2 ?_)))
 refine A1 rfl (B2 1 rfl E2 rfl K5 (A0 rfl) rfl) ?_
 refine A1 rfl (B1 1 rfl (A0 rfl) rfl N1 rfl) ?_
 refine A1 rfl (B2 1 rfl E2 rfl K5 (A0 rfl) rfl) ?_
 refine A1 rfl (B1 0 rfl (A0 rfl) rfl N1 rfl) ?_
 refine A1 rfl (E1 rfl Tryz.call55 rfl (AX6 _ _) (A8 (A0 rfl) (A8 (A0 rfl) C7))) ?_
 refine A1 rfl (J3 rfl (A0 rfl)) ?_
 refine A4 ?_
 refine C0 (A0 rfl) ?_ ?_
 ·intro h15
  refine A3 (A2 ?_)
  refine A1 rfl (A9 rfl E3) ?_
  refine A4 ?_
  refine B8 ?_
  exact E4 rfl (B7 rfl (by exact congrArg AV.bool (by cases a; cases b; simp_all)))
 intro h15
 refine C1 (A3 (A3 (A2 ?_)))
 refine A1 rfl (B2 2 rfl E2 rfl M1 (A0 rfl) rfl) ?_
 refine A1 rfl (B1 1 rfl (A0 rfl) rfl Q1 rfl) ?_
 refine A1 rfl (B2 2 rfl E2 rfl M1 (A0 rfl) rfl) ?_
 refine A1 rfl (B1 0 rfl (A0 rfl) rfl Q1 rfl) ?_
 refine A1 rfl (E1 rfl Tryz.call56 rfl (AX9 _ _) (A8 (A0 rfl) (A8 (A0 rfl) C7))) ?_
 refine A1 rfl (J3 rfl (A0 rfl)) ?_
 refine A4 ?_
 refine C0 (A0 rfl) ?_ ?_
 ·intro h21
  refine A3 (A2 ?_)
  refine A1 rfl (A9 rfl E3) ?_
  refine A4 ?_
  refine B8 ?_
  exact E4 rfl (B7 rfl (by exact congrArg AV.bool (by cases a; cases b; simp_all)))
 intro h21
 refine C1 (A3 (A3 (A2 ?_)))
 refine A1 rfl (B2 3 rfl E2 rfl P7 (A0 rfl) rfl) ?_
 refine A1 rfl (B1 1 rfl (A0 rfl) rfl T9 rfl) ?_
 refine A1 rfl (B2 3 rfl E2 rfl P7 (A0 rfl) rfl) ?_
 refine A1 rfl (B1 0 rfl (A0 rfl) rfl T9 rfl) ?_
 refine A1 rfl (E1 rfl Tryz.call57 rfl (AY2 _ _) (A8 (A0 rfl) (A8 (A0 rfl) C7))) ?_
 refine A1 rfl (J3 rfl (A0 rfl)) ?_
 refine A4 ?_
 refine C0 (A0 rfl) ?_ ?_
 ·intro h27
  refine A3 (A2 ?_)
  refine A1 rfl (A9 rfl E3) ?_
  refine A4 ?_
  refine B8 ?_
  exact E4 rfl (B7 rfl (by exact congrArg AV.bool (by cases a; cases b; simp_all)))
 intro h27
 refine C1 (A3 (A2 ?_))
 refine A1 rfl (A9 rfl E3) ?_
 refine A4 ?_
 refine B8 ?_
 exact E4 rfl (B7 rfl (by exact congrArg AV.bool (by cases a; cases b; simp_all)))
theorem AK7 (a b : TFeedItem) : FSpec Tryz.prog 54 [AV.agg a.cs, AV.agg b.cs] (AV.bool (decide (a = b))) := by
 refine D3 Tryz.func54 rfl Tryz.ntmps54 rfl ?_
 refine A3 (A2 ?_)
 refine I8 rfl rfl rfl rfl (A0 rfl) ?_
 intro b2
 refine I8 rfl rfl rfl rfl (A0 rfl) ?_
 intro b3
 refine A1 rfl (A9 rfl E3) ?_
 refine A4 (A3 (A3 (A2 ?_)))
 refine A1 rfl (B2 0 rfl G4 rfl B9 (A0 rfl) rfl) ?_
 refine A1 rfl (B1 1 rfl (A0 rfl) rfl D2 rfl) ?_
 refine A1 rfl (B2 0 rfl G4 rfl B9 (A0 rfl) rfl) ?_
 refine A1 rfl (B1 0 rfl (A0 rfl) rfl D2 rfl) ?_
 refine A1 rfl (R6 rfl (A0 rfl) (A0 rfl)) ?_
 refine A4 ?_
 refine C0 (A0 rfl) ?_ ?_
 ·intro h9
  have k9 := N6 h9; try simp only [A6] at k9
  refine A3 (A2 ?_)
  refine A1 rfl (A9 rfl E3) ?_
  refine A4 ?_
  refine B8 ?_
  exact E4 rfl (B7 rfl (by exact congrArg AV.bool (by cases a; cases b; simp_all)))
 intro h9
 have k9 := J1 h9; try simp only [A6] at k9
 refine C1 (A3 (A3 (A2 ?_)))
 refine A1 rfl (B2 1 rfl G4 rfl B9 (A0 rfl) rfl) ?_
 refine A1 rfl (B1 1 rfl (A0 rfl) rfl D2 rfl) ?_
 refine A1 rfl (B2 1 rfl G4 rfl B9 (A0 rfl) rfl) ?_
 refine A1 rfl (B1 0 rfl (A0 rfl) rfl D2 rfl) ?_
 refine A1 rfl (R6 rfl (A0 rfl) (A0 rfl)) ?_
 refine A4 ?_
 refine C0 (A0 rfl) ?_ ?_
 ·intro h14
  have k14 := N6 h14; try simp only [A6] at k14
  refine A3 (A2 ?_)
  refine A1 rfl (A9 rfl E3) ?_
  refine A4 ?_
  refine B8 ?_
  exact E4 rfl (B7 rfl (by exact congrArg AV.bool (by cases a; cases b; simp_all)))
 intro h14
 have k14 := J1 h14; try simp only [A6] at k14
 refine C1 (A3 (A3 (A2 ?_)))
 refine A1 rfl (B2 2 rfl G4 rfl C6 (A0 rfl) rfl) ?_
 refine A1 rfl (B1 1 rfl (A0 rfl) rfl E5 rfl) ?_
 refine A1 rfl (B2 2 rfl G4 rfl C6 (A0 rfl) rfl) ?_
 refine A1 rfl (B1 0 rfl (A0 rfl) rfl E5 rfl) ?_
 refine A1 rfl (Y6 rfl (A0 rfl) (A0 rfl)) ?_
 refine A4 ?_
 refine C0 (A0 rfl) ?_ ?_
 ·intro h19
  refine A3 (A2 ?_)
  refine A1 rfl (A9 rfl E3) ?_
  refine A4 ?_
  refine B8 ?_
  exact E4 rfl (B7 rfl (by exact congrArg AV.bool (by cases a; cases b; simp_all)))
 intro h19
 refine C1 (A3 (A3 (A2 ?_)))
 refine A1 rfl (B2 3 rfl G4 rfl C6 (A0 rfl) rfl) ?_
 refine A1 rfl (B1 1 rfl (A0 rfl) rfl E5 rfl) ?_
 refine A1 rfl (B2 3 rfl G4 rfl C6 (A0 rfl) rfl) ?_
 refine A1 rfl (B1 0 rfl (A0 rfl) rfl E5 rfl) ?_
 refine A1 rfl (Y6 rfl (A0 rfl) (A0 rfl)) ?_
 refine A4 ?_
 refine C0 (A0 rfl) ?_ ?_
 ·intro h24
  refine A3 (A2 ?_)
  refine A1 rfl (A9 rfl E3) ?_
  refine A4 ?_
  refine B8 ?_
  exact E4 rfl (B7 rfl (by exact congrArg AV.bool (by cases a; cases b; simp_all)))
 intro h24
 refine C1 (A3 (A3 (A2 ?_)))
 refine A1 rfl (B2 4 rfl G4 rfl F8 (A0 rfl) rfl) ?_
 refine A1 rfl (B1 1 rfl (A0 rfl) rfl I5 rfl) ?_
 refine A1 rfl (B2 4 rfl G4 rfl F8 (A0 rfl) rfl) ?_
 refine A1 rfl (B1 0 rfl (A0 rfl) rfl I5 rfl) ?_
 refine A1 rfl (m1 rfl N5 (A0 rfl) (A0 rfl)) ?_
 refine A4 ?_
 refine C0 (A0 rfl) ?_ ?_
 ·intro h29
  refine A3 (A2 ?_)
  refine A1 rfl (A9 rfl E3) ?_
  refine A4 ?_
  refine B8 ?_
  exact E4 rfl (B7 rfl (by exact congrArg AV.bool (by cases a; cases b; simp_all)))
 intro h29
 refine C1 (A3 (A2 ?_))
 refine A1 rfl (A9 rfl E3) ?_
 refine A4 ?_
 refine B8 ?_
 exact E4 rfl (B7 rfl (by exact congrArg AV.bool (by cases a; cases b; simp_all)))
theorem f0 (a b : List TFeedItem) : FSpec Tryz.prog 18 [AV.list 5 (a.map TFeedItem.cs), AV.list 5 (b.map TFeedItem.cs)] (AV.bool (decide (a = b))) := by
 refine D3 Tryz.func18 rfl Tryz.ntmps18 rfl ?_
 refine N7 (t := 0) rfl fun hl => ?_
 try simp only [A6] at hl
 refine A3 (A2 ?_)
 refine A1 rfl (A9 rfl E3) ?_
 refine A4 (A3 (A3 (A2 ?_)))
 refine A5 rfl ?_
 refine A1 rfl (E9 rfl F9 (A0 rfl)) ?_
 refine A5 rfl ?_
 refine A1 rfl (E9 rfl F9 (A0 rfl)) ?_
 refine A1 rfl (R6 rfl (A0 rfl) (A0 rfl)) ?_
 refine A4 ?_
 refine C0 (A0 rfl) ?_ ?_
 ·intro h10
  have k10 := N6 h10; try simp only [A6] at k10
  have hab : a ≠ b := by intro hc; subst hc; exact k10 rfl
  refine A3 (A2 ?_)
  refine A1 rfl (A9 rfl E3) ?_
  refine A4 ?_
  refine B8 ?_
  exact E4 rfl (B7 rfl (by exact congrArg AV.bool (by simp [hab])))
 intro h10
 have k10 := J1 h10; try simp only [A6] at k10
 have heq : a.length = b.length := by omega
 refine C1 (A3 (A3 (A2 ?_)))
 refine A1 rfl (A9 rfl B4) ?_
 refine A4 (C4 ?_)
 refine H2 [(0, _), (1, _)] _ (fun (i : Nat) => i ≤ a.length ∧ a.take i = b.take i) (fun (i : Nat) => []) (fun (i : Nat) => [(5, AV.int i)]) (fun (i : Nat) => a.length - i) (0) ?_ (H1 ⟨rfl, rfl, rfl, trivial⟩) ?_
 ·exact ⟨Nat.zero_le _, rfl⟩
 intro i hinv
 refine A3 (A3 (A2 ?_))
 refine A5 rfl ?_
 refine A5 rfl ?_
 refine A1 rfl (E9 rfl F9 (A0 rfl)) ?_
 refine A1 rfl (G0 rfl (A0 rfl) (A0 rfl)) ?_
 refine A4 ?_
 refine C0 (A0 rfl) ?_ ?_
 ·intro h14
  have k14 := of_decide_eq_true h14; try simp only [A6] at k14
  have hlt : i < a.length := by omega
  obtain ⟨x, hx⟩ := get_some hlt
  obtain ⟨y, hy⟩ := get_some (show i < b.length by omega)
  refine C1 (A3 (C4 (A3 ?_)))
  refine H7 (by kernel_rfl) (by kernel_rfl) rfl ?_
  refine B5 rfl rfl (C2 rfl (A0 rfl)) ?_
  refine B5 rfl rfl (C2 rfl (A0 rfl)) ?_
  refine B5 rfl rfl (O7 rfl F9 I2 (A0 rfl) (A0 rfl) (by omega) (by simp only [Int.toNat_natCast, List.getElem?_map, hx, Option.map_some]; try rfl)) ?_
  refine B5 rfl rfl (H8 rfl (A0 rfl) S8 I2) ?_
  refine B5 rfl rfl (C2 rfl (A0 rfl)) ?_
  refine B5 rfl rfl (C2 rfl (A0 rfl)) ?_
  refine B5 rfl rfl (O7 rfl F9 I2 (A0 rfl) (A0 rfl) (by omega) (by simp only [Int.toNat_natCast, List.getElem?_map, hy, Option.map_some]; try rfl)) ?_
  refine B5 rfl rfl (H8 rfl (A0 rfl) S8 I2) ?_
  refine B5 rfl rfl (E1 rfl Tryz.call54 rfl (AK7 _ _) (A8 (A0 rfl) (A8 (A0 rfl) C7))) ?_
  refine B5 rfl rfl (J3 rfl (A0 rfl)) ?_
  refine O5 ?_
  refine C0 (A0 rfl) ?_ ?_
  ·intro h26
   have hab : a ≠ b := by intro hc; subst hc; rw [hx] at hy; injection hy with hy; subst hy; simp at h26
   refine A3 (A2 ?_)
   refine A1 rfl (A9 rfl E3) ?_
   refine A4 ?_
   refine B8 ?_
   exact E4 rfl (B7 rfl (by exact congrArg AV.bool (by simp [hab])))
  intro h26
  refine C1 (A2 ?_)
  refine A5 rfl ?_
  refine A1 rfl (F1 rfl (A0 rfl) B4 (by first | omega | (simp only [D4, B0, szR] at *; omega))) ?_
  refine B3 rfl ?_
  refine A4 ?_
  refine I0 i (i + 1) ?_ ?_ (H1 ⟨rfl, rfl, rfl, trivial⟩)
  ·exact ⟨by omega, V5 hinv.2 hx (by rw [hy]; congr 1; simp_all)⟩
  omega
 intro h14
 have k14 := of_decide_eq_false h14; try simp only [A6] at k14
 have hge : a.length ≤ i := by omega
 have hab : a = b := Y1 heq hinv.2 hge
 refine F5 ?_
 refine A3 (A2 ?_)
 refine A1 rfl (A9 rfl E3) ?_
 refine A4 ?_
 refine B8 ?_
 exact E4 rfl (B7 rfl (by exact congrArg AV.bool (by simp [hab])))
end Go.Proofs.YtkegepoihkhihaaGreat

namespace Go.M
open Go.AV
end Go.M
namespace Go.Proofs.YtkegepoihkhihaaGreat
open Go Go.AV Go.M
attribute [local irreducible] OpW OpA OpS AWP FSpec ESpec GSpec OpE RetOk RetOkG RvDen Le Ev GuardIs SrcIs Int.tmod Int.tdiv IntKind.wrap
end Go.Proofs.YtkegepoihkhihaaGreat

namespace Go.M
open Go.AV
end Go.M
namespace Go.Proofs.YtkegepoihkhihaaGreat
open Go Go.AV Go.M
attribute [local irreducible] OpW OpA OpS AWP FSpec ESpec GSpec OpE RetOk RetOkG RvDen Le Ev GuardIs SrcIs Int.tmod Int.tdiv IntKind.wrap
end Go.Proofs.YtkegepoihkhihaaGreat

namespace Go.M
open Go.AV
end Go.M
namespace Go.Proofs.YtkegepoihkhihaaGreat
open Go Go.AV Go.M
attribute [local irreducible] OpW OpA OpS AWP FSpec ESpec GSpec OpE RetOk RetOkG RvDen Le Ev GuardIs SrcIs Int.tmod Int.tdiv IntKind.wrap
end Go.Proofs.YtkegepoihkhihaaGreat

set_option maxHeartbeats 1000000
namespace Go.M
open Go.AV
end Go.M
namespace Go.Proofs.YtkegepoihkhihaaGreat
open Go Go.AV Go.M
attribute [local irreducible] OpW OpA OpS AWP FSpec ESpec GSpec OpE RetOk RetOkG RvDen Le Ev GuardIs SrcIs
end Go.Proofs.YtkegepoihkhihaaGreat

namespace Go.M
open Go.AV
structure TCur where
  p : Nat
  seed : Int
end Go.M

namespace Go.Proofs.YtkegepoihkhihaaGreat
open Go Go.AV Go.M
attribute [local irreducible] OpW OpA OpS AWP FSpec ESpec GSpec OpE RetOk RetOkG RvDen Le Ev GuardIs SrcIs Int.tmod IntKind.wrap bandI
end Go.Proofs.YtkegepoihkhihaaGreat

namespace Go.Proofs.YtkegepoihkhihaaGreat
open Go Go.AV Go.M
attribute [local irreducible] OpW OpA OpS AWP FSpec ESpec GSpec OpE RetOk RetOkG RvDen Le Ev GuardIs SrcIs
end Go.Proofs.YtkegepoihkhihaaGreat

namespace Go.Proofs.YtkegepoihkhihaaGreat
open Go Go.AV Go.M
attribute [local irreducible] OpW OpA OpS AWP FSpec ESpec GSpec OpE RetOk RetOkG RvDen Le Ev GuardIs SrcIs Int.tmod Int.tdiv IntKind.wrap bandI
end Go.Proofs.YtkegepoihkhihaaGreat
