/- FnStamps: for all drawn times, spans and clocks, a decided time lies past the span and is no earlier than the times told, a leader begins past what a former one looked at, and what is told after a wait fits its stamp; the program answers what the reference answers. No condition. -/
import Derived.Test.YtnlhbdkcgaeimaaGreatZStamps5

set_option linter.unusedVariables false
set_option linter.unusedSimpArgs false
set_option maxRecDepth 100000
set_option maxHeartbeats 1000000
namespace Go.M
open Go.AV
theorem AL1 {m : Int} {l : List Int} {i : Nat} {x : Int} (h : l[i]? = some x) : maxAll m (l.take (i + 1)) = mostI (maxAll m (l.take i)) x := by
  unfold maxAll
  rw [List.take_add_one, h, List.foldl_append]; rfl
theorem AH8 {t : Int} (h : t ≤ 100000) : ifT t = (t, true) := by unfold ifT; rw [if_pos h, decide_eq_true h]
theorem ifT_no {t : Int} (h : ¬ t ≤ 100000) : ifT t = (0, false) := by unfold ifT; rw [if_neg h, decide_eq_false h]
theorem AD5 {n : Int} : isTime n = true ↔ 1 ≤ n ∧ n ≤ 100000 := by unfold isTime within; simp only [Bool.and_eq_true, decide_eq_true_eq]
theorem Ac4 (c : TClock) (now t : Int) (h : (waitR c now t).2 = true) : (0 ≤ now ∧ now ≤ 100000) ∧ 0 ≤ (waitR c now t).1 ∧ now + (waitR c now t).1 ≤ 100000 := by
  unfold waitR at h ⊢
  split at h
  · rename_i hg
    rw [if_pos hg]
    simp only [Bool.and_eq_true] at hg
    have h1 := T7.1 hg.1.2
    split at h
    · rename_i hl; rw [if_pos hl]
      have := t6 0 (t + 1 - (spanOf c now).Low)
      exact ⟨h1, this.1, hl⟩
    · cases h
  · cases h
end Go.M
namespace Go.Proofs.YtnlhbdkcgaeimaaGreat
open Go Go.AV Go.M
attribute [local irreducible] OpW OpA OpS AWP FSpec ESpec GSpec OpE RetOk RetOkG RvDen Le Ev GuardIs SrcIs SrcE Int.tmod Int.tdiv IntKind.wrap bandI
theorem AN5 (t : Int) : FSpec Tryz.prog 133 [AV.int t] (AV.bool (!isTime t)) := by
 refine D9 Tryz.func133 rfl Tryz.ntmps133 rfl ?_
 refine A3 (A2 ?_)
 refine A1 rfl rfl rfl (B8 rfl F0) ?_
 refine A5 (A3 (A2 ?_))
 refine A4 rfl rfl rfl rfl rfl ?_
 refine A1 rfl rfl rfl (D6 rfl Tryz.call134 rfl (W9 _) (A7 (A0 rfl) C0)) ?_
 refine A1 rfl rfl rfl (I4 rfl (A0 rfl)) ?_
 refine B2 rfl rfl rfl rfl rfl ?_
 refine A5 ?_
 refine C6 ?_
 exact H1 rfl (C3 rfl (by rfl))
theorem AS2 (y : Int) (l : List Int) (hl : l.length ≤ 1000) : FSpec Tryz.prog 136 [ints (y :: l)] (AV.int (maxAll y l)) := by
 refine D9 Tryz.func136 rfl Tryz.ntmps136 rfl ?_
 refine A3 (A2 ?_)
 refine A1 rfl rfl rfl (B8 rfl B5) ?_
 refine A5 (A3 (A3 (A2 ?_)))
 refine A4 rfl rfl rfl rfl rfl ?_
 refine A1 rfl rfl rfl (H3 rfl I0 (A0 rfl)) ?_
 refine A1 rfl rfl rfl (J8 rfl (A0 rfl) B5) ?_
 refine A5 ?_
 refine C8 (A0 rfl) ?_ ?_
 ·intro h7
  have k7 := of_decide_eq_true h7; try simp only [A6] at k7
  exfalso; simp at h7; omega
 ·intro h7
  have k7 := of_decide_eq_false h7; try simp only [A6] at k7
  refine D1 (A3 (A2 ?_))
  refine A4 rfl rfl rfl rfl rfl ?_
  refine A1 rfl rfl rfl (q6 rfl I0 B9 (A0 rfl) B5 (by omega) rfl) ?_
  refine A1 rfl rfl rfl (L6 rfl (A0 rfl) C7 rfl) ?_
  refine B2 rfl rfl rfl rfl rfl ?_
  refine A5 (A3 (A3 (A2 ?_)))
  refine A1 rfl rfl rfl (B8 rfl B5) ?_
  refine A5 (D7 ?_)
  refine T5 [(0, _), (2, _)] _ (fun (i : Nat) (m : Int) => i ≤ l.length ∧ m = maxAll y (l.take i)) (fun (i : Nat) (m : Int) => []) (fun (i : Nat) (m : Int) => [(3, AV.int m), (4, AV.int ((i : Int) + 1))]) (fun (i : Nat) (m : Int) => l.length - i) (0) (y) ?_ (J1 ⟨rfl, rfl, rfl, rfl, trivial⟩) ?_
  ·exact ⟨Nat.zero_le _, rfl⟩
  intro i m hinv
  refine A3 (A3 (A2 ?_))
  refine A4 rfl rfl rfl rfl rfl ?_
  refine A4 rfl rfl rfl rfl rfl ?_
  refine A1 rfl rfl rfl (H3 rfl I0 (A0 rfl)) ?_
  refine A1 rfl rfl rfl (J8 rfl (A0 rfl) (A0 rfl)) ?_
  refine A5 ?_
  refine C8 (A0 rfl) ?_ ?_
  ·intro h15
   have k15 := of_decide_eq_true h15; try simp only [A6] at k15
   have hlt : i < l.length := by (simp only [A6, B7] at h15; have h9 := of_decide_eq_true h15; omega)
   obtain ⟨x, hx⟩ := get_some hlt
   refine D1 (A3 (D7 (A2 ?_)))
   refine A4 rfl rfl rfl rfl rfl ?_
   refine A4 rfl rfl rfl rfl rfl ?_
   refine A4 rfl rfl rfl rfl rfl ?_
   refine A1 rfl rfl rfl (J4 rfl I0 B9 (A0 rfl) (A0 rfl) (show (y :: l)[((i : Int) + 1).toNat]? = some x by rw [show ((i : Int) + 1).toNat = i + 1 by omega]; exact hx) (by first | omega | (simp only [A6, B0, B7, C1, B3, szR] at *; omega))) ?_
   refine A1 rfl rfl rfl (L6 rfl (A0 rfl) C7 rfl) ?_
   refine A1 rfl rfl rfl (AY0 rfl (A0 rfl) (A0 rfl)) ?_
   refine B2 rfl rfl rfl rfl rfl ?_
   refine A5 (A2 ?_)
   refine A4 rfl rfl rfl rfl rfl ?_
   refine A1 rfl rfl rfl (G5 rfl (A0 rfl) B5 (by first | omega | (simp only [A6, B0, B7, C1, B3, szR] at *; omega))) ?_
   refine B2 rfl rfl rfl rfl rfl ?_
   refine A5 ?_
   refine S5 i m (i + 1) ((if x > m then x else m)) ?_ ?_ (J1 ⟨rfl, rfl, rfl, rfl, trivial⟩)
   ·exact ⟨by omega, by rw [AL1 hx, ← hinv.2]; unfold mostI; split <;> split <;> omega⟩
   ·omega
  ·intro h15
   have k15 := of_decide_eq_false h15; try simp only [A6] at k15
   have hge : l.length ≤ i := by (simp only [A6, B7] at h15; have h9 := of_decide_eq_false h15; omega)
   rw [show m = maxAll y l from by rw [hinv.2, List.take_of_length_le hge]]
   refine H4 ?_
   refine A3 (A2 ?_)
   refine A4 rfl rfl rfl rfl rfl ?_
   refine B2 rfl rfl rfl rfl rfl ?_
   refine A5 ?_
   refine C6 ?_
   exact H1 rfl (C3 rfl (by rfl))
theorem AB1 (l : List Int) (s : TSpan) (hs : s.High ≤ 1000000 ∧ -1000000 ≤ s.High) : FSpec Tryz.prog 140 [ints l, AV.agg s.cs] (AV.int (maxAll (s.High + 1) l)) := by
 refine D9 Tryz.func140 rfl Tryz.ntmps140 rfl ?_
 refine S4 (t := 0) rfl fun hl => ?_
 try simp only [A6] at hl
 refine A3 (A2 ?_)
 refine J6 rfl rfl rfl rfl (A0 rfl) ?_
 intro b3
 refine A1 rfl rfl rfl (B8 rfl B5) ?_
 refine A5 (A3 (A2 ?_))
 refine A1 rfl rfl rfl (B6 1 rfl J5 rfl B9 (A0 rfl) rfl) ?_
 refine A1 rfl rfl rfl (B4 0 rfl (A0 rfl) rfl C7 rfl) ?_
 refine A1 rfl rfl rfl (G5 rfl (A0 rfl) B5 (by first | omega | (simp only [A6, B0, B7, C1, B3, szR] at *; omega))) ?_
 refine B2 rfl rfl rfl rfl rfl ?_
 refine A5 (A3 (A3 (A2 ?_)))
 refine A4 rfl rfl rfl rfl rfl ?_
 refine A1 rfl rfl rfl (H3 rfl I0 (A0 rfl)) ?_
 refine A1 rfl rfl rfl (C4 rfl B5) ?_
 refine A5 (D7 ?_)
 refine T5 [(4, _), (11, _), (12, _)] _ (fun (i : Nat) (m : Int) => i ≤ l.length ∧ m = maxAll (s.High + 1) (l.take i)) (fun (i : Nat) (m : Int) => []) (fun (i : Nat) (m : Int) => [(5, AV.int m), (13, AV.int i)]) (fun (i : Nat) (m : Int) => l.length - i) (0) (s.High + 1) ?_ (J1 ⟨rfl, rfl, rfl, rfl, rfl, trivial⟩) ?_
 ·exact ⟨Nat.zero_le _, rfl⟩
 intro i m hinv
 refine A3 (A2 ?_)
 refine A1 rfl rfl rfl (J8 rfl (A0 rfl) (A0 rfl)) ?_
 refine A5 (A3 ?_)
 refine C8 (A0 rfl) ?_ ?_
 ·intro h14
  have k14 := of_decide_eq_true h14; try simp only [A6] at k14
  have hlt : i < l.length := by omega
  obtain ⟨x, hx⟩ := get_some hlt
  refine D1 (A3 (D7 (A3 (A2 ?_))))
  refine A1 rfl rfl rfl (J4 rfl I0 B9 (A0 rfl) (A0 rfl) hx (by first | omega | (simp only [A6, B0, B7, C1, B3, szR] at *; omega))) ?_
  refine A1 rfl rfl rfl (L6 rfl (A0 rfl) C7 rfl) ?_
  refine B2 rfl rfl rfl rfl rfl ?_
  refine A5 (A2 ?_)
  refine A4 rfl rfl rfl rfl rfl ?_
  refine A4 rfl rfl rfl rfl rfl ?_
  refine A1 rfl rfl rfl (D6 rfl Tryz.call130 rfl (o4 _ _) (A7 (A0 rfl) (A7 (A0 rfl) C0))) ?_
  refine B2 rfl rfl rfl rfl rfl ?_
  refine A5 (A2 ?_)
  refine A1 rfl rfl rfl (G5 rfl (A0 rfl) B5 (by first | omega | (simp only [A6, B0, B7, C1, B3, szR] at *; omega))) ?_
  refine A4 rfl rfl rfl rfl rfl ?_
  refine A5 ?_
  refine S5 i m (i + 1) (mostI m x) ?_ ?_ (J1 ⟨rfl, rfl, rfl, rfl, rfl, trivial⟩)
  ·exact ⟨by omega, by rw [AL1 hx, hinv.2]⟩
  ·omega
 ·intro h14
  have k14 := of_decide_eq_false h14; try simp only [A6] at k14
  have hge : l.length ≤ i := by omega
  rw [show m = maxAll (s.High + 1) l from by rw [hinv.2, List.take_of_length_le hge]]
  refine H4 ?_
  refine A3 (A2 ?_)
  refine A4 rfl rfl rfl rfl rfl ?_
  refine B2 rfl rfl rfl rfl rfl ?_
  refine A5 ?_
  refine C6 ?_
  exact H1 rfl (C3 rfl (by rfl))
theorem Ac5 (c : TClock) (now t : Int) : FSpec Tryz.prog 145 [AV.agg c.cs, AV.int now, AV.int t] (AV.tup [AV.int (waitR c now t).1, AV.bool (waitR c now t).2]) := by
 refine D9 Tryz.func145 rfl Tryz.ntmps145 rfl ?_
 refine A3 (A2 ?_)
 refine J6 rfl rfl rfl rfl (A0 rfl) ?_
 intro b3
 refine A1 rfl rfl rfl (B8 rfl B5) ?_
 refine A1 rfl rfl rfl (B8 rfl F0) ?_
 refine A5 (A3 (A3 (A2 ?_)))
 refine A1 rfl rfl rfl (E4 0 rfl (A0 rfl) rfl L4 H6 rfl) ?_
 refine A1 rfl rfl rfl (D6 rfl Tryz.call143 rfl (AA9 _) (A7 (A0 rfl) C0)) ?_
 refine A1 rfl rfl rfl (I4 rfl (A0 rfl)) ?_
 refine A4 rfl rfl rfl rfl rfl ?_
 refine A9 rfl rfl (C9 rfl rfl rfl) (fun hc => C4 rfl (A0 rfl)) ?_
 refine A9 rfl rfl (C9 rfl rfl rfl) (fun hc => D6 rfl Tryz.call90 rfl (Y2 _) (A7 (A8 rfl hc) C0)) ?_
 refine A9 rfl rfl (C9 rfl rfl rfl) (fun hc => I4 rfl (A8 rfl hc)) ?_
 refine A1 rfl rfl rfl (N4 rfl (A0 rfl) (E3 rfl)) ?_
 refine A4 rfl rfl rfl rfl rfl ?_
 refine A9 rfl rfl (C9 rfl rfl rfl) (fun hc => C4 rfl (A0 rfl)) ?_
 refine A9 rfl rfl (C9 rfl rfl rfl) (fun hc => D6 rfl Tryz.call90 rfl (Y2 _) (A7 (A8 rfl hc) C0)) ?_
 refine A9 rfl rfl (C9 rfl rfl rfl) (fun hc => I4 rfl (A8 rfl hc)) ?_
 refine A1 rfl rfl rfl (N4 rfl (A0 rfl) (E3 rfl)) ?_
 refine A5 ?_
 refine C8 (A0 rfl) ?_ ?_
 ·intro h21
  have he : waitR c now t = (0, false) := by (unfold waitR; rw [if_neg (by cases h1 : goodClock c <;> cases h2 : M.isTrue now <;> simp_all)])
  rw [he]
  refine A3 (A2 ?_)
  refine A1 rfl rfl rfl (B8 rfl B5) ?_
  refine A1 rfl rfl rfl (B8 rfl F0) ?_
  refine A5 ?_
  refine C6 ?_
  exact R5 rfl (by decide) (E6 (C3 rfl (by rfl)) (E6 (C3 rfl (by rfl)) I8))
 ·intro h21
  have hg : goodClock c = true ∧ M.isTrue now = true ∧ M.isTrue t = true := by (cases h1 : goodClock c <;> cases h2 : M.isTrue now <;> cases h3 : M.isTrue t <;> simp_all)
  have g1 := Z2.1 hg.1
  have g2 := T7.1 hg.2.1
  have g3 := T7.1 hg.2.2
  have he : waitR c now t = (if now + waitBy c now t ≤ 100000 then (waitBy c now t, true) else (0, false)) := by (unfold waitR; rw [if_pos (by rw [hg.1, hg.2.1, hg.2.2]; rfl)])
  have hlow : (spanOf c now).Low = now + c.Off - 5 := rfl
  have hm : (if t + 1 - (spanOf c now).Low > 0 then t + 1 - (spanOf c now).Low else 0) = waitBy c now t := by (unfold waitBy mostI; split <;> split <;> omega)
  have hw : 0 ≤ waitBy c now t ∧ waitBy c now t ≤ 200100 := by (unfold waitBy mostI; split <;> omega)
  rw [he]
  refine D1 (A3 (A2 ?_))
  refine A4 rfl rfl rfl rfl rfl ?_
  refine A1 rfl rfl rfl (G5 rfl (A0 rfl) B5 (by first | omega | (simp only [A6, B0, B7, C1, B3, szR] at *; omega))) ?_
  refine A1 rfl rfl rfl (E4 0 rfl (A0 rfl) rfl L4 H6 rfl) ?_
  refine A4 rfl rfl rfl rfl rfl ?_
  refine A1 rfl rfl rfl (D6 rfl Tryz.call144 rfl (AW1 c now hg.1 hg.2.1) (A7 (A0 rfl) (A7 (A0 rfl) C0))) ?_
  refine A1 rfl rfl rfl (w_fld1 rfl J5 rfl C7 (A0 rfl) rfl) ?_
  refine A1 rfl rfl rfl (N1 rfl (A0 rfl) (A0 rfl) (by show _ ≤ t + 1 - (spanOf c now).Low ∧ t + 1 - (spanOf c now).Low ≤ _; omega)) ?_
  refine A1 rfl rfl rfl (AY0 rfl B5 (A0 rfl)) ?_
  rw [hm]
  refine B2 rfl rfl rfl rfl rfl ?_
  refine A5 (A3 (A3 (A2 ?_)))
  refine A4 rfl rfl rfl rfl rfl ?_
  refine A4 rfl rfl rfl rfl rfl ?_
  refine A1 rfl rfl rfl (G5 rfl (A0 rfl) (A0 rfl) (by show _ ≤ now + waitBy c now t ∧ now + waitBy c now t ≤ _; omega)) ?_
  refine A1 rfl rfl rfl (O5 rfl (A0 rfl) B5) ?_
  refine A5 ?_
  refine C8 (A0 rfl) ?_ ?_
  ·intro h33
   have k33 := of_decide_eq_true h33; try simp only [A6] at k33
   rw [if_neg (show ¬ now + waitBy c now t ≤ 100000 from by have h9 := of_decide_eq_true h33; omega)]
   refine A3 (A2 ?_)
   refine A1 rfl rfl rfl (B8 rfl B5) ?_
   refine A1 rfl rfl rfl (B8 rfl F0) ?_
   refine A5 ?_
   refine C6 ?_
   exact R5 rfl (by decide) (E6 (C3 rfl (by rfl)) (E6 (C3 rfl (by rfl)) I8))
  ·intro h33
   have k33 := of_decide_eq_false h33; try simp only [A6] at k33
   rw [if_pos (show now + waitBy c now t ≤ 100000 from by have h9 := of_decide_eq_false h33; omega)]
   refine D1 (A3 (A2 ?_))
   refine A4 rfl rfl rfl rfl rfl ?_
   refine B2 rfl rfl rfl rfl rfl ?_
   refine A1 rfl rfl rfl (B8 rfl F0) ?_
   refine A5 ?_
   refine C6 ?_
   exact R5 rfl (by decide) (E6 (C3 rfl (by rfl)) (E6 (C3 rfl (by rfl)) I8))
theorem AX7 (c : TClock) (now t : Int) : FSpec Tryz.prog 148 [AV.agg c.cs, AV.int now, AV.int t] (AV.tup [AV.int (waitR c now t).1, AV.bool (waitR c now t).2]) := by
 refine D9 Tryz.func148 rfl Tryz.ntmps148 rfl ?_
 refine A3 (A2 ?_)
 refine J6 rfl rfl rfl rfl (A0 rfl) ?_
 intro b3
 refine A1 rfl rfl rfl (B8 rfl B5) ?_
 refine A1 rfl rfl rfl (B8 rfl F0) ?_
 refine A5 (A3 (A3 (A2 ?_)))
 refine A1 rfl rfl rfl (E4 0 rfl (A0 rfl) rfl L4 H6 rfl) ?_
 refine A1 rfl rfl rfl (D6 rfl Tryz.call225 rfl (Ac2 _) (A7 (A0 rfl) C0)) ?_
 refine A1 rfl rfl rfl (I4 rfl (A0 rfl)) ?_
 refine A4 rfl rfl rfl rfl rfl ?_
 refine A9 rfl rfl (C9 rfl rfl rfl) (fun hc => C4 rfl (A0 rfl)) ?_
 refine A9 rfl rfl (C9 rfl rfl rfl) (fun hc => D6 rfl Tryz.call120 rfl (o1 _) (A7 (A8 rfl hc) C0)) ?_
 refine A9 rfl rfl (C9 rfl rfl rfl) (fun hc => I4 rfl (A8 rfl hc)) ?_
 refine A1 rfl rfl rfl (N4 rfl (A0 rfl) (E3 rfl)) ?_
 refine A4 rfl rfl rfl rfl rfl ?_
 refine A9 rfl rfl (C9 rfl rfl rfl) (fun hc => C4 rfl (A0 rfl)) ?_
 refine A9 rfl rfl (C9 rfl rfl rfl) (fun hc => D6 rfl Tryz.call120 rfl (o1 _) (A7 (A8 rfl hc) C0)) ?_
 refine A9 rfl rfl (C9 rfl rfl rfl) (fun hc => I4 rfl (A8 rfl hc)) ?_
 refine A1 rfl rfl rfl (N4 rfl (A0 rfl) (E3 rfl)) ?_
 refine A5 ?_
 refine C8 (A0 rfl) ?_ ?_
 ·intro h21
  have he : waitR c now t = (0, false) := by (unfold waitR; rw [if_neg (by cases h1 : goodClock c <;> cases h2 : M.isTrue now <;> simp_all)])
  rw [he]
  refine A3 (A2 ?_)
  refine A1 rfl rfl rfl (B8 rfl B5) ?_
  refine A1 rfl rfl rfl (B8 rfl F0) ?_
  refine A5 ?_
  refine C6 ?_
  exact R5 rfl (by decide) (E6 (C3 rfl (by rfl)) (E6 (C3 rfl (by rfl)) I8))
 ·intro h21
  have hg : goodClock c = true ∧ M.isTrue now = true ∧ M.isTrue t = true := by (cases h1 : goodClock c <;> cases h2 : M.isTrue now <;> cases h3 : M.isTrue t <;> simp_all)
  have g1 := Z2.1 hg.1
  have g2 := T7.1 hg.2.1
  have g3 := T7.1 hg.2.2
  have he : waitR c now t = (if now + waitBy c now t ≤ 100000 then (waitBy c now t, true) else (0, false)) := by (unfold waitR; rw [if_pos (by rw [hg.1, hg.2.1, hg.2.2]; rfl)])
  have hlow : (spanOf c now).Low = now + c.Off - 5 := rfl
  have hw : 0 ≤ waitBy c now t ∧ waitBy c now t ≤ 200100 := by (unfold waitBy mostI; split <;> omega)
  rw [he]
  refine D1 (A3 (A2 ?_))
  refine A4 rfl rfl rfl rfl rfl ?_
  refine A1 rfl rfl rfl (G5 rfl (A0 rfl) B5 (by first | omega | (simp only [A6, B0, B7, C1, B3, szR] at *; omega))) ?_
  refine A1 rfl rfl rfl (E4 0 rfl (A0 rfl) rfl L4 H6 rfl) ?_
  refine A4 rfl rfl rfl rfl rfl ?_
  refine A1 rfl rfl rfl (D6 rfl Tryz.call226 rfl (An8 c now hg.1 hg.2.1) (A7 (A0 rfl) (A7 (A0 rfl) C0))) ?_
  refine A1 rfl rfl rfl (w_fld1 rfl J5 rfl C7 (A0 rfl) rfl) ?_
  refine A1 rfl rfl rfl (N1 rfl (A0 rfl) (A0 rfl) (by show _ ≤ t + 1 - (spanOf c now).Low ∧ t + 1 - (spanOf c now).Low ≤ _; omega)) ?_
  refine A1 rfl rfl rfl (D6 rfl Tryz.call130 rfl (o4 _ _) (A7 B5 (A7 (A0 rfl) C0))) ?_
  refine B2 rfl rfl rfl rfl rfl ?_
  refine A5 (A3 (A3 (A2 ?_)))
  refine A4 rfl rfl rfl rfl rfl ?_
  refine A4 rfl rfl rfl rfl rfl ?_
  refine A1 rfl rfl rfl (G5 rfl (A0 rfl) (A0 rfl) (by show _ ≤ now + waitBy c now t ∧ now + waitBy c now t ≤ _; omega)) ?_
  refine A1 rfl rfl rfl (O5 rfl (A0 rfl) B5) ?_
  refine A5 ?_
  refine C8 (A0 rfl) ?_ ?_
  ·intro h33
   have k33 := of_decide_eq_true h33; try simp only [A6] at k33
   rw [if_neg (show ¬ now + waitBy c now t ≤ 100000 from by have h9 := of_decide_eq_true h33; show ¬ now + mostI 0 (t + 1 - (spanOf c now).Low) ≤ 100000; unfold mostI; omega)]
   refine A3 (A2 ?_)
   refine A1 rfl rfl rfl (B8 rfl B5) ?_
   refine A1 rfl rfl rfl (B8 rfl F0) ?_
   refine A5 ?_
   refine C6 ?_
   exact R5 rfl (by decide) (E6 (C3 rfl (by rfl)) (E6 (C3 rfl (by rfl)) I8))
  ·intro h33
   have k33 := of_decide_eq_false h33; try simp only [A6] at k33
   rw [if_pos (show now + waitBy c now t ≤ 100000 from by have h9 := of_decide_eq_false h33; show now + mostI 0 (t + 1 - (spanOf c now).Low) ≤ 100000; unfold mostI; omega)]
   refine D1 (A3 (A2 ?_))
   refine A4 rfl rfl rfl rfl rfl ?_
   refine B2 rfl rfl rfl rfl rfl ?_
   refine A1 rfl rfl rfl (B8 rfl F0) ?_
   refine A5 ?_
   refine C6 ?_
   exact R5 rfl (by decide) (E6 (C3 rfl (by rfl)) (E6 (C3 rfl (by rfl)) I8))
theorem Y6 (c : TClock) (now t : Int) : FSpec Tryz.prog 54 [AV.agg c.cs, AV.int now, AV.int t] (AV.tup [AV.int (afterR c now t).1, AV.bool (afterR c now t).2]) := by
 have hb := Ac4 c now t
 refine D9 Tryz.func54 rfl Tryz.ntmps54 rfl ?_
 refine A3 (A2 ?_)
 refine J6 rfl rfl rfl rfl (A0 rfl) ?_
 intro b3
 refine A1 rfl rfl rfl (B8 rfl B5) ?_
 refine A1 rfl rfl rfl (B8 rfl F0) ?_
 refine A5 (A3 (A2 ?_))
 refine A1 rfl rfl rfl (E4 0 rfl (A0 rfl) rfl L4 H6 rfl) ?_
 refine A4 rfl rfl rfl rfl rfl ?_
 refine A4 rfl rfl rfl rfl rfl ?_
 refine A1 rfl rfl rfl (D6 rfl Tryz.call145 rfl (Ac5 c now t) (A7 (A0 rfl) (A7 (A0 rfl) (A7 (A0 rfl) C0)))) ?_
 refine A4 rfl rfl rfl rfl rfl ?_
 refine A1 rfl rfl rfl (D0 rfl (A0 rfl) rfl) ?_
 refine A1 rfl rfl rfl (D0 rfl (A0 rfl) rfl) ?_
 refine B2 rfl rfl rfl rfl rfl ?_
 refine B2 rfl rfl rfl rfl rfl ?_
 refine A5 (A3 (A3 (A2 ?_)))
 refine A4 rfl rfl rfl rfl rfl ?_
 refine A1 rfl rfl rfl (I4 rfl (A0 rfl)) ?_
 refine A4 rfl rfl rfl rfl rfl ?_
 refine A9 rfl rfl (C9 rfl rfl rfl) (fun hc => C4 rfl (A0 rfl)) ?_
 refine A9 rfl rfl (C9 rfl rfl rfl) (fun hc => D6 rfl Tryz.call134 rfl (W9 _) (A7 (A8 rfl hc) C0)) ?_
 refine A9 rfl rfl (C9 rfl rfl rfl) (fun hc => I4 rfl (A8 rfl hc)) ?_
 refine A1 rfl rfl rfl (N4 rfl (A0 rfl) (E3 rfl)) ?_
 refine A5 ?_
 refine C8 (A0 rfl) ?_ ?_
 ·intro h23
  have he : afterR c now t = (0, false) := by (unfold afterR; rw [if_neg (by cases h1 : (waitR c now t).2 <;> simp_all)])
  rw [he]
  refine A3 (A2 ?_)
  refine A1 rfl rfl rfl (B8 rfl B5) ?_
  refine A1 rfl rfl rfl (B8 rfl F0) ?_
  refine A5 ?_
  refine C6 ?_
  exact R5 rfl (by decide) (E6 (C3 rfl (by rfl)) (E6 (C3 rfl (by rfl)) I8))
 ·intro h23
  have hg : (waitR c now t).2 = true ∧ M.isTime t = true := by (cases h1 : (waitR c now t).2 <;> cases h2 : M.isTime t <;> simp_all)
  have hbb := hb hg.1
  have he : afterR c now t = (now + (waitR c now t).1, true) := by (unfold afterR; rw [if_pos (by rw [hg.1, hg.2]; rfl)])
  rw [he]
  refine D1 (A3 (A2 ?_))
  refine A4 rfl rfl rfl rfl rfl ?_
  refine A4 rfl rfl rfl rfl rfl ?_
  refine A1 rfl rfl rfl (G5 rfl (A0 rfl) (A0 rfl) (by omega)) ?_
  refine B2 rfl rfl rfl rfl rfl ?_
  refine A1 rfl rfl rfl (B8 rfl F0) ?_
  refine A5 ?_
  refine C6 ?_
  exact R5 rfl (by decide) (E6 (C3 rfl (by rfl)) (E6 (C3 rfl (by rfl)) I8))
theorem d5 (c : TClock) (now t : Int) : FSpec Tryz.prog 57 [AV.agg c.cs, AV.int now, AV.int t] (AV.tup [AV.int (afterR c now t).1, AV.bool (afterR c now t).2]) := by
 have hb := Ac4 c now t
 refine D9 Tryz.func57 rfl Tryz.ntmps57 rfl ?_
 refine A3 (A2 ?_)
 refine J6 rfl rfl rfl rfl (A0 rfl) ?_
 intro b3
 refine A1 rfl rfl rfl (B8 rfl B5) ?_
 refine A1 rfl rfl rfl (B8 rfl F0) ?_
 refine A5 (A3 (A3 (A2 ?_)))
 refine A4 rfl rfl rfl rfl rfl ?_
 refine A1 rfl rfl rfl (D6 rfl Tryz.call147 rfl (Z8 _) (A7 (A0 rfl) C0)) ?_
 refine A1 rfl rfl rfl (I4 rfl (A0 rfl)) ?_
 refine A5 ?_
 refine C8 (A0 rfl) ?_ ?_
 ·intro h12
  have he : afterR c now t = (0, false) := by (unfold afterR; rw [if_neg (by (have h9 : M.isTime t = false := (by have h8 : (!within t 1 100000) = true := h12; unfold M.isTime; simpa using h8)); simp [h9])])
  rw [he]
  refine A3 (A2 ?_)
  refine A1 rfl rfl rfl (B8 rfl B5) ?_
  refine A1 rfl rfl rfl (B8 rfl F0) ?_
  refine A5 ?_
  refine C6 ?_
  exact R5 rfl (by decide) (E6 (C3 rfl (by rfl)) (E6 (C3 rfl (by rfl)) I8))
 ·intro h12
  have ht : M.isTime t = true := by (have h8 : (!within t 1 100000) = false := h12; unfold M.isTime; simpa using h8)
  refine D1 (A3 (A2 ?_))
  refine A1 rfl rfl rfl (E4 0 rfl (A0 rfl) rfl L4 H6 rfl) ?_
  refine A4 rfl rfl rfl rfl rfl ?_
  refine A4 rfl rfl rfl rfl rfl ?_
  refine A1 rfl rfl rfl (D6 rfl Tryz.call148 rfl (AX7 c now t) (A7 (A0 rfl) (A7 (A0 rfl) (A7 (A0 rfl) C0)))) ?_
  refine A4 rfl rfl rfl rfl rfl ?_
  refine A1 rfl rfl rfl (D0 rfl (A0 rfl) rfl) ?_
  refine A1 rfl rfl rfl (D0 rfl (A0 rfl) rfl) ?_
  refine B2 rfl rfl rfl rfl rfl ?_
  refine B2 rfl rfl rfl rfl rfl ?_
  refine A5 (A3 (A3 (A2 ?_)))
  refine A4 rfl rfl rfl rfl rfl ?_
  refine A1 rfl rfl rfl (I4 rfl (A0 rfl)) ?_
  refine A5 ?_
  refine C8 (A0 rfl) ?_ ?_
  ·intro h21
   have he : afterR c now t = (0, false) := by (unfold afterR; rw [if_neg (by (have h8 : (waitR c now t).2 = false := (by simpa using h21)); simp [h8])])
   rw [he]
   refine A3 (A2 ?_)
   refine A1 rfl rfl rfl (B8 rfl B5) ?_
   refine A1 rfl rfl rfl (B8 rfl F0) ?_
   refine A5 ?_
   refine C6 ?_
   exact R5 rfl (by decide) (E6 (C3 rfl (by rfl)) (E6 (C3 rfl (by rfl)) I8))
  ·intro h21
   have hw : (waitR c now t).2 = true := by (simpa using h21)
   have hbb := hb hw
   have he : afterR c now t = (now + (waitR c now t).1, true) := by (unfold afterR; rw [if_pos (by rw [hw, ht]; rfl)])
   rw [he]
   refine D1 (A3 (A2 ?_))
   refine A4 rfl rfl rfl rfl rfl ?_
   refine A4 rfl rfl rfl rfl rfl ?_
   refine A1 rfl rfl rfl (G5 rfl (A0 rfl) (A0 rfl) (by omega)) ?_
   refine B2 rfl rfl rfl rfl rfl ?_
   refine A1 rfl rfl rfl (B8 rfl F0) ?_
   refine A5 ?_
   refine C6 ?_
   exact R5 rfl (by decide) (E6 (C3 rfl (by rfl)) (E6 (C3 rfl (by rfl)) I8))
theorem m4 (s : TState) (k : Str) (t : Int) (hs : s.size ≤ 1048576) (hk : k.length ≤ 1048576) : FSpec Tryz.prog 60 [AV.agg s.cs, AV.str k, AV.int t] (AV.tup [AV.bool (mayR s k t).1, AV.bool (mayR s k t).2]) := by
 refine D9 Tryz.func60 rfl Tryz.ntmps60 rfl ?_
 refine A3 (A2 ?_)
 refine J6 rfl rfl rfl rfl (A0 rfl) ?_
 intro b3
 refine A1 rfl rfl rfl (B8 rfl F0) ?_
 refine A1 rfl rfl rfl (B8 rfl F0) ?_
 refine A5 (A3 (A2 ?_))
 refine A1 rfl rfl rfl (E4 0 rfl (A0 rfl) rfl F1 D3 rfl) ?_
 refine A4 rfl rfl rfl rfl rfl ?_
 refine A4 rfl rfl rfl rfl rfl ?_
 refine A1 rfl rfl rfl (D6 rfl Tryz.call34 rfl (AS0 s k t hs hk) (A7 (A0 rfl) (A7 (A0 rfl) (A7 (A0 rfl) C0)))) ?_
 refine A4 rfl rfl rfl rfl rfl ?_
 refine A1 rfl rfl rfl (D0 rfl (A0 rfl) rfl) ?_
 refine A1 rfl rfl rfl (D0 rfl (A0 rfl) rfl) ?_
 refine B2 rfl rfl rfl rfl rfl ?_
 refine B2 rfl rfl rfl rfl rfl ?_
 refine A5 (A3 (A2 ?_))
 refine A4 rfl rfl rfl rfl rfl ?_
 refine A4 rfl rfl rfl rfl rfl ?_
 refine A9 rfl rfl (B1 rfl rfl rfl) (fun hc => C4 rfl (A0 rfl)) ?_
 refine A9 rfl rfl (B1 rfl rfl rfl) (fun hc => H3 rfl I0 (A8 rfl hc)) ?_
 refine A9 rfl rfl (B1 rfl rfl rfl) (fun hc => M5 rfl (A8 rfl hc) B5) ?_
 refine A1 rfl rfl rfl (G1 rfl (A0 rfl) (E3 rfl)) ?_
 refine A4 rfl rfl rfl rfl rfl ?_
 refine B2 rfl rfl rfl rfl rfl ?_
 refine B2 rfl rfl rfl rfl rfl ?_
 refine A5 ?_
 refine C6 ?_
 exact R5 rfl (by decide) (E6 (C3 rfl (by first | rfl | (refine congrArg AV.bool ?_; unfold mayR; simp only [A6]; cases (blocksR s k t).2 <;> cases (blocksR s k t).1 <;> simp; omega))) (E6 (C3 rfl (by first | rfl | (refine congrArg AV.bool ?_; unfold mayR; simp only [A6]; cases (blocksR s k t).2 <;> cases (blocksR s k t).1 <;> simp; omega))) I8))
theorem i8 (s : TState) (k : Str) (t : Int) (hs : s.size ≤ 400000) (hk : k.length ≤ 1048576) : FSpec Tryz.prog 61 [AV.agg s.cs, AV.str k, AV.int t] (AV.tup [AV.bool (mayR s k t).1, AV.bool (mayR s k t).2]) := by
 refine D9 Tryz.func61 rfl Tryz.ntmps61 rfl ?_
 refine A3 (A2 ?_)
 refine J6 rfl rfl rfl rfl (A0 rfl) ?_
 intro b3
 refine A1 rfl rfl rfl (B8 rfl F0) ?_
 refine A1 rfl rfl rfl (B8 rfl F0) ?_
 refine A5 (A3 (A3 (A2 ?_)))
 refine A1 rfl rfl rfl (E4 0 rfl (A0 rfl) rfl F1 D3 rfl) ?_
 refine A1 rfl rfl rfl (D6 rfl Tryz.call102 rfl (w6 s hs) (A7 (A0 rfl) C0)) ?_
 refine A1 rfl rfl rfl (I4 rfl (A0 rfl)) ?_
 refine A4 rfl rfl rfl rfl rfl ?_
 refine A9 rfl rfl (C9 rfl rfl rfl) (fun hc => C4 rfl (A0 rfl)) ?_
 refine A9 rfl rfl (C9 rfl rfl rfl) (fun hc => D6 rfl Tryz.call119 rfl (q9 _ (by omega)) (A7 (A8 rfl hc) C0)) ?_
 refine A9 rfl rfl (C9 rfl rfl rfl) (fun hc => I4 rfl (A8 rfl hc)) ?_
 refine A1 rfl rfl rfl (N4 rfl (A0 rfl) (E3 rfl)) ?_
 refine A4 rfl rfl rfl rfl rfl ?_
 refine A9 rfl rfl (C9 rfl rfl rfl) (fun hc => C4 rfl (A0 rfl)) ?_
 refine A9 rfl rfl (C9 rfl rfl rfl) (fun hc => D6 rfl Tryz.call120 rfl (o1 _) (A7 (A8 rfl hc) C0)) ?_
 refine A9 rfl rfl (C9 rfl rfl rfl) (fun hc => I4 rfl (A8 rfl hc)) ?_
 refine A1 rfl rfl rfl (N4 rfl (A0 rfl) (E3 rfl)) ?_
 refine A5 ?_
 refine C8 (A0 rfl) ?_ ?_
 ·intro h20
  have he : mayR s k t = (false, false) := by (unfold mayR blocksR; rw [if_neg (by rw [l6]; cases h1 : goodState s <;> cases h2 : l3Key k <;> simp_all)]; rfl)
  rw [he]
  refine A3 (A2 ?_)
  refine A1 rfl rfl rfl (B8 rfl F0) ?_
  refine A1 rfl rfl rfl (B8 rfl F0) ?_
  refine A5 ?_
  refine C6 ?_
  exact R5 rfl (by decide) (E6 (C3 rfl (by first | rfl | (refine congrArg AV.bool ?_; simp only [A6]; cases h9 : (blocksOf s.Held k t).length <;> simp; omega))) (E6 (C3 rfl (by first | rfl | (refine congrArg AV.bool ?_; simp only [A6]; cases h9 : (blocksOf s.Held k t).length <;> simp; omega))) I8))
 ·intro h20
  have he : mayR s k t = (((blocksOf s.Held k t).length == 0), true) := by (unfold mayR blocksR; rw [if_pos (by rw [l6]; cases h1 : goodState s <;> cases h2 : l3Key k <;> simp_all)]; rfl)
  rw [he]
  refine D1 (A3 (A2 ?_))
  refine A1 rfl rfl rfl (E4 0 rfl (A0 rfl) rfl F1 D3 rfl) ?_
  refine A4 rfl rfl rfl rfl rfl ?_
  refine A4 rfl rfl rfl rfl rfl ?_
  refine A1 rfl rfl rfl (D6 rfl Tryz.call121 rfl (Ab9 s k t (by omega)) (A7 (A0 rfl) (A7 (A0 rfl) (A7 (A0 rfl) C0)))) ?_
  refine A1 rfl rfl rfl (H3 rfl I0 (A0 rfl)) ?_
  refine A1 rfl rfl rfl (M5 rfl (A0 rfl) B5) ?_
  refine B2 rfl rfl rfl rfl rfl ?_
  refine A1 rfl rfl rfl (B8 rfl F0) ?_
  refine A5 ?_
  refine C6 ?_
  exact R5 rfl (by decide) (E6 (C3 rfl (by first | rfl | (refine congrArg AV.bool ?_; simp only [A6]; cases h9 : (blocksOf s.Held k t).length <;> simp; omega))) (E6 (C3 rfl (by first | rfl | (refine congrArg AV.bool ?_; simp only [A6]; cases h9 : (blocksOf s.Held k t).length <;> simp; omega))) I8))
theorem AQ1 (l : List Int) (s : TSpan) : FSpec Tryz.prog 46 [ints l, AV.agg s.cs] (AV.tup [AV.int (decT l s).1, AV.bool (decT l s).2]) := by
 refine D9 Tryz.func46 rfl Tryz.ntmps46 rfl ?_
 refine S4 (t := 0) rfl fun hl => ?_
 try simp only [A6] at hl
 refine A3 (A2 ?_)
 refine J6 rfl rfl rfl rfl (A0 rfl) ?_
 intro b3
 refine A1 rfl rfl rfl (B8 rfl B5) ?_
 refine A1 rfl rfl rfl (B8 rfl F0) ?_
 refine A5 (A3 (A3 (A2 ?_)))
 refine A4 rfl rfl rfl rfl rfl ?_
 refine A1 rfl rfl rfl (H3 rfl I0 (A0 rfl)) ?_
 refine A1 rfl rfl rfl (D6 rfl Tryz.call94 rfl (W8 _ _ _) (A7 (A0 rfl) (A7 B5 (A7 B5 C0)))) ?_
 refine A1 rfl rfl rfl (I4 rfl (A0 rfl)) ?_
 refine A4 rfl rfl rfl rfl rfl ?_
 refine A9 rfl rfl (C9 rfl rfl rfl) (fun hc => C4 rfl (A0 rfl)) ?_
 refine A9 rfl rfl (C9 rfl rfl rfl) (fun hc => D6 rfl Tryz.call132 rfl (AC8 l (fun _ => True) (fun t => !isTime t) (fun _ _ => trivial)) (A7 (A8 rfl hc) (A7 (Af5 Tryz.call133 (fun r h => AN5 r)) C0))) ?_
 refine A1 rfl rfl rfl (N4 rfl (A0 rfl) (E3 rfl)) ?_
 refine A4 rfl rfl rfl rfl rfl ?_
 refine A9 rfl rfl (C9 rfl rfl rfl) (fun hc => E4 0 rfl (A0 rfl) rfl I5 F8 rfl) ?_
 refine A9 rfl rfl (C9 rfl rfl rfl) (fun hc => D6 rfl Tryz.call135 rfl (i7 _) (A7 (A8 rfl hc) C0)) ?_
 refine A9 rfl rfl (C9 rfl rfl rfl) (fun hc => I4 rfl (A8 rfl hc)) ?_
 refine A1 rfl rfl rfl (N4 rfl (A0 rfl) (E3 rfl)) ?_
 refine A5 ?_
 refine C8 (A0 rfl) ?_ ?_
 ·intro h18
  have he : decT l s = (0, false) := by (unfold decT; rw [if_neg (by rw [show (l.any fun t => !isTime t) = !l.all isTime from Ag6 l] at h18; simp only [A6] at h18; cases h1 : within (l.length : Int) 1 4 <;> cases h2 : l.all isTime <;> simp_all)])
  rw [he]
  refine A3 (A2 ?_)
  refine A1 rfl rfl rfl (B8 rfl B5) ?_
  refine A1 rfl rfl rfl (B8 rfl F0) ?_
  refine A5 ?_
  refine C6 ?_
  exact R5 rfl (by decide) (E6 (C3 rfl (by first | rfl | rw [← hm])) (E6 (C3 rfl (by first | rfl | rw [← hm])) I8))
 ·intro h18
  have hg : within (l.length : Int) 1 4 = true ∧ l.all isTime = true ∧ goodSpan s = true := by (rw [show (l.any fun t => !isTime t) = !l.all isTime from Ag6 l] at h18; simp only [A6] at h18; cases h1 : within (l.length : Int) 1 4 <;> cases h2 : l.all isTime <;> cases h3 : goodSpan s <;> simp_all)
  have hln : 1 ≤ (l.length : Int) ∧ (l.length : Int) ≤ 4 := by (have h9 := hg.1; unfold within at h9; simpa using h9)
  have hsp := Y8.1 hg.2.2
  obtain ⟨y, l2, hyl⟩ : ∃ y l2, l = y :: l2 := by (cases l with | nil => (simp at hln) | cons y q => exact ⟨y, q, rfl⟩)
  have he : decT l s = ifT (mostI (s.High + 1) (maxAll y l2)) := by (unfold decT; rw [if_pos (by rw [hg.1, hg.2.1, hg.2.2]; rfl), hyl]; show ifT (maxAll (mostI (s.High + 1) y) l2) = _; rw [AK9])
  have hm : (if s.High + 1 > maxAll y l2 then s.High + 1 else maxAll y l2) = mostI (s.High + 1) (maxAll y l2) := rfl
  rw [he, hyl]
  refine D1 (A3 ?_)
  refine K0 (by kernel_rfl) (by kernel_rfl) rfl ?_
  refine C2 rfl rfl (C4 rfl (A0 rfl)) ?_
  refine C2 rfl rfl (D6 rfl Tryz.call136 rfl (AS2 y l2 (by rw [hyl, B7] at hln; omega)) (A7 (A0 rfl) C0)) ?_
  refine C2 rfl rfl (B6 1 rfl J5 rfl B9 (A0 rfl) rfl) ?_
  refine C2 rfl rfl (B4 0 rfl (A0 rfl) rfl C7 rfl) ?_
  refine C2 rfl rfl (G5 rfl (A0 rfl) B5 (by first | omega | (simp only [A6, B0, B7, C1, B3, szR] at *; omega))) ?_
  refine C2 rfl rfl (AY0 rfl (A0 rfl) (A0 rfl)) ?_
  refine C2 rfl rfl (D6 rfl Tryz.call127 rfl (AN4 _) (A7 (A0 rfl) C0)) ?_
  refine C2 rfl rfl (D0 rfl (A0 rfl) rfl) ?_
  refine C2 rfl rfl (D0 rfl (A0 rfl) rfl) ?_
  refine C2 rfl rfl (B8 rfl (A0 rfl)) ?_
  refine C2 rfl rfl (B8 rfl (A0 rfl)) ?_
  refine Q9 ?_
  refine C6 ?_
  exact R5 rfl (by decide) (E6 (C3 rfl (by first | rfl | rw [← hm])) (E6 (C3 rfl (by first | rfl | rw [← hm])) I8))
theorem AN6 (l : List Int) (s : TSpan) : FSpec Tryz.prog 47 [ints l, AV.agg s.cs] (AV.tup [AV.int (decT l s).1, AV.bool (decT l s).2]) := by
 refine D9 Tryz.func47 rfl Tryz.ntmps47 rfl ?_
 refine S4 (t := 0) rfl fun hl => ?_
 try simp only [A6] at hl
 refine A3 (A2 ?_)
 refine J6 rfl rfl rfl rfl (A0 rfl) ?_
 intro b3
 refine A1 rfl rfl rfl (B8 rfl B5) ?_
 refine A1 rfl rfl rfl (B8 rfl F0) ?_
 refine A5 (A3 (A3 (A2 ?_)))
 refine A4 rfl rfl rfl rfl rfl ?_
 refine A1 rfl rfl rfl (H3 rfl I0 (A0 rfl)) ?_
 refine A1 rfl rfl rfl (D6 rfl Tryz.call137 rfl (T8 _ _ _) (A7 (A0 rfl) (A7 B5 (A7 B5 C0)))) ?_
 refine A1 rfl rfl rfl (I4 rfl (A0 rfl)) ?_
 refine A4 rfl rfl rfl rfl rfl ?_
 refine A9 rfl rfl (C9 rfl rfl rfl) (fun hc => C4 rfl (A0 rfl)) ?_
 refine A9 rfl rfl (C9 rfl rfl rfl) (fun hc => D6 rfl Tryz.call138 rfl (Ak5 _ _ _) (A7 (A8 rfl hc) (A7 B5 (A7 B5 C0)))) ?_
 refine A9 rfl rfl (C9 rfl rfl rfl) (fun hc => I4 rfl (A8 rfl hc)) ?_
 refine A1 rfl rfl rfl (N4 rfl (A0 rfl) (E3 rfl)) ?_
 refine A4 rfl rfl rfl rfl rfl ?_
 refine A9 rfl rfl (C9 rfl rfl rfl) (fun hc => E4 0 rfl (A0 rfl) rfl I5 F8 rfl) ?_
 refine A9 rfl rfl (C9 rfl rfl rfl) (fun hc => D6 rfl Tryz.call139 rfl (AL0 _) (A7 (A8 rfl hc) C0)) ?_
 refine A9 rfl rfl (C9 rfl rfl rfl) (fun hc => I4 rfl (A8 rfl hc)) ?_
 refine A1 rfl rfl rfl (N4 rfl (A0 rfl) (E3 rfl)) ?_
 refine A4 rfl rfl rfl rfl rfl ?_
 refine A9 rfl rfl (C9 rfl rfl rfl) (fun hc => C4 rfl (A0 rfl)) ?_
 refine A9 rfl rfl (C9 rfl rfl rfl) (fun hc => E4 0 rfl (A0 rfl) rfl I5 F8 rfl) ?_
 refine A9 rfl rfl (C9 rfl rfl rfl) (fun hc => D6 rfl Tryz.call140 rfl (AB1 l s (by cases h2 : goodSpan s with | false => (simp [h2] at hc) | true => (have h8 := Y8.1 h2; omega))) (A7 (A8 rfl hc) (A7 (A8 rfl hc) C0))) ?_
 refine A9 rfl rfl (C9 rfl rfl rfl) (fun hc => O5 rfl (A8 rfl hc) B5) ?_
 refine A1 rfl rfl rfl (N4 rfl (A0 rfl) (E3 rfl)) ?_
 refine A5 ?_
 refine C8 (A0 rfl) ?_ ?_
 ·intro h25
  have he : decT l s = (0, false) := by (unfold decT; by_cases hq : (within (l.length : Int) 1 4 && l.all isTime && goodSpan s) = true; (rw [if_pos hq, ifT_no]; simp only [Bool.and_eq_true] at hq; rw [show ((l.all fun n => within n 1 100000)) = true from hq.1.2, hq.2, A6, hq.1.1] at h25; simpa using h25); rw [if_neg hq])
  rw [he]
  refine A3 (A2 ?_)
  refine A1 rfl rfl rfl (B8 rfl B5) ?_
  refine A1 rfl rfl rfl (B8 rfl F0) ?_
  refine A5 ?_
  refine C6 ?_
  exact R5 rfl (by decide) (E6 (C3 rfl (by rfl)) (E6 (C3 rfl (by rfl)) I8))
 ·intro h25
  have hg : within (l.length : Int) 1 4 = true ∧ l.all isTime = true ∧ goodSpan s = true := by (have h9 := h25; rw [show ((l.all fun n => within n 1 100000)) = l.all isTime from rfl, A6] at h9; cases h1 : within (l.length : Int) 1 4 <;> cases h2 : l.all isTime <;> cases h3 : goodSpan s <;> simp_all)
  have hsp := Y8.1 hg.2.2
  have he : decT l s = (maxAll (s.High + 1) l, true) := by (unfold decT; rw [if_pos (by rw [hg.1, hg.2.1, hg.2.2]; rfl), AH8]; have h9 := h25; rw [show ((l.all fun n => within n 1 100000)) = l.all isTime from rfl, A6, hg.1, hg.2.1, hg.2.2] at h9; simpa using h9)
  rw [he]
  refine D1 (A3 (A2 ?_))
  refine A4 rfl rfl rfl rfl rfl ?_
  refine A1 rfl rfl rfl (E4 0 rfl (A0 rfl) rfl I5 F8 rfl) ?_
  refine A1 rfl rfl rfl (D6 rfl Tryz.call140 rfl (AB1 l s (by omega)) (A7 (A0 rfl) (A7 (A0 rfl) C0))) ?_
  refine B2 rfl rfl rfl rfl rfl ?_
  refine A1 rfl rfl rfl (B8 rfl F0) ?_
  refine A5 ?_
  refine C6 ?_
  exact R5 rfl (by decide) (E6 (C3 rfl (by rfl)) (E6 (C3 rfl (by rfl)) I8))
theorem Y7 (s : TState) (x : TSpan) (hs : s.size ≤ 1048576) : FSpec Tryz.prog 53 [AV.agg s.cs, AV.agg x.cs] (AV.tup [AV.int (leadR s x).1, AV.bool (leadR s x).2]) := by
 refine D9 Tryz.func53 rfl Tryz.ntmps53 rfl ?_
 refine A3 (A2 ?_)
 refine J6 rfl rfl rfl rfl (A0 rfl) ?_
 intro b2
 refine J6 rfl rfl rfl rfl (A0 rfl) ?_
 intro b3
 refine A1 rfl rfl rfl (B8 rfl B5) ?_
 refine A1 rfl rfl rfl (B8 rfl F0) ?_
 refine A5 (A3 (A3 (A2 ?_)))
 refine A1 rfl rfl rfl (E4 1 rfl (A0 rfl) rfl F1 D3 rfl) ?_
 refine A1 rfl rfl rfl (D6 rfl Tryz.call15 rfl (AA7 s hs) (A7 (A0 rfl) C0)) ?_
 refine A1 rfl rfl rfl (I4 rfl (A0 rfl)) ?_
 refine A4 rfl rfl rfl rfl rfl ?_
 refine A9 rfl rfl (C9 rfl rfl rfl) (fun hc => E4 0 rfl (A0 rfl) rfl I5 F8 rfl) ?_
 refine A9 rfl rfl (C9 rfl rfl rfl) (fun hc => D6 rfl Tryz.call135 rfl (i7 _) (A7 (A8 rfl hc) C0)) ?_
 refine A9 rfl rfl (C9 rfl rfl rfl) (fun hc => I4 rfl (A8 rfl hc)) ?_
 refine A1 rfl rfl rfl (N4 rfl (A0 rfl) (E3 rfl)) ?_
 refine A5 ?_
 refine C8 (A0 rfl) ?_ ?_
 ·intro h13
  have he : leadR s x = (0, false) := by (unfold leadR; rw [if_neg (by cases h1 : goodState s <;> simp_all)])
  rw [he]
  refine A3 (A2 ?_)
  refine A1 rfl rfl rfl (B8 rfl B5) ?_
  refine A1 rfl rfl rfl (B8 rfl F0) ?_
  refine A5 ?_
  refine C6 ?_
  exact R5 rfl (by decide) (E6 (C3 rfl (by first | rfl | rw [← hm])) (E6 (C3 rfl (by first | rfl | rw [← hm])) I8))
 ·intro h13
  have hg : goodState s = true ∧ goodSpan x = true := by (cases h1 : goodState s <;> cases h2 : goodSpan x <;> simp_all)
  have hfl := (i6.1 hg.1).floor
  have hsp := Y8.1 hg.2
  have he : leadR s x = ifT (mostI 1 (mostI (s.Floor + 1) (x.High + 10))) := by (unfold leadR; rw [if_pos (by rw [hg.1, hg.2]; rfl)])
  have hm : (if 1 > (if x.High + 10 > s.Floor + 1 then x.High + 10 else s.Floor + 1) then 1 else (if x.High + 10 > s.Floor + 1 then x.High + 10 else s.Floor + 1)) = mostI 1 (mostI (s.Floor + 1) (x.High + 10)) := by (unfold mostI; repeat (first | omega | split))
  rw [he]
  refine D1 (A3 (A2 ?_))
  refine A1 rfl rfl rfl (B6 0 rfl D4 rfl B9 (A0 rfl) rfl) ?_
  refine A1 rfl rfl rfl (B4 1 rfl (A0 rfl) rfl C7 rfl) ?_
  refine A1 rfl rfl rfl (G5 rfl (A0 rfl) B5 (by first | omega | (simp only [A6, B0, B7, C1, B3, szR] at *; omega))) ?_
  refine A1 rfl rfl rfl (B6 1 rfl J5 rfl B9 (A0 rfl) rfl) ?_
  refine A1 rfl rfl rfl (B4 0 rfl (A0 rfl) rfl C7 rfl) ?_
  refine A1 rfl rfl rfl (G5 rfl (A0 rfl) B5 (by first | omega | (simp only [A6, B0, B7, C1, B3, szR] at *; omega))) ?_
  refine A1 rfl rfl rfl (w_max3 rfl (A0 rfl) (A0 rfl) B5) ?_
  refine A1 rfl rfl rfl (D6 rfl Tryz.call127 rfl (AN4 _) (A7 (A0 rfl) C0)) ?_
  refine A1 rfl rfl rfl (D0 rfl (A0 rfl) rfl) ?_
  refine A1 rfl rfl rfl (D0 rfl (A0 rfl) rfl) ?_
  refine B2 rfl rfl rfl rfl rfl ?_
  refine B2 rfl rfl rfl rfl rfl ?_
  refine A5 ?_
  refine C6 ?_
  exact R5 rfl (by decide) (E6 (C3 rfl (by first | rfl | rw [← hm])) (E6 (C3 rfl (by first | rfl | rw [← hm])) I8))
theorem AE3 (s : TState) (x : TSpan) (hs : s.Floor ≤ 1000000 ∧ -1000000 ≤ s.Floor) (hx : x.High ≤ 1000000 ∧ -1000000 ≤ x.High) : FSpec Tryz.prog 149 [AV.agg s.cs, AV.agg x.cs] (AV.int (mostI 1 (mostI (s.Floor + 1) (x.High + 10)))) := by
 refine D9 Tryz.func149 rfl Tryz.ntmps149 rfl ?_
 refine A3 (A2 ?_)
 refine J6 rfl rfl rfl rfl (A0 rfl) ?_
 intro b2
 refine J6 rfl rfl rfl rfl (A0 rfl) ?_
 intro b3
 refine A1 rfl rfl rfl (B8 rfl B5) ?_
 refine A5 (A3 (A2 ?_))
 refine A1 rfl rfl rfl (B6 0 rfl D4 rfl B9 (A0 rfl) rfl) ?_
 refine A1 rfl rfl rfl (B4 1 rfl (A0 rfl) rfl C7 rfl) ?_
 refine A1 rfl rfl rfl (G5 rfl (A0 rfl) B5 (by first | omega | (simp only [A6, B0, B7, C1, B3, szR] at *; omega))) ?_
 refine A1 rfl rfl rfl (B6 1 rfl J5 rfl B9 (A0 rfl) rfl) ?_
 refine A1 rfl rfl rfl (B4 0 rfl (A0 rfl) rfl C7 rfl) ?_
 refine A1 rfl rfl rfl (G5 rfl (A0 rfl) B5 (by first | omega | (simp only [A6, B0, B7, C1, B3, szR] at *; omega))) ?_
 refine A1 rfl rfl rfl (D6 rfl Tryz.call130 rfl (o4 _ _) (A7 (A0 rfl) (A7 (A0 rfl) C0))) ?_
 refine A1 rfl rfl rfl (D6 rfl Tryz.call130 rfl (o4 _ _) (A7 B5 (A7 (A0 rfl) C0))) ?_
 refine B2 rfl rfl rfl rfl rfl ?_
 refine A5 ?_
 refine C6 ?_
 exact H1 rfl (C3 rfl (by rfl))
theorem d6 (s : TState) (x : TSpan) (hs : s.size ≤ 400000) : FSpec Tryz.prog 58 [AV.agg s.cs, AV.agg x.cs] (AV.tup [AV.int (leadR s x).1, AV.bool (leadR s x).2]) := by
 refine D9 Tryz.func58 rfl Tryz.ntmps58 rfl ?_
 refine A3 (A2 ?_)
 refine J6 rfl rfl rfl rfl (A0 rfl) ?_
 intro b2
 refine J6 rfl rfl rfl rfl (A0 rfl) ?_
 intro b3
 refine A1 rfl rfl rfl (B8 rfl B5) ?_
 refine A1 rfl rfl rfl (B8 rfl F0) ?_
 refine A5 (A3 (A3 (A2 ?_)))
 refine A1 rfl rfl rfl (E4 1 rfl (A0 rfl) rfl F1 D3 rfl) ?_
 refine A1 rfl rfl rfl (D6 rfl Tryz.call102 rfl (w6 s hs) (A7 (A0 rfl) C0)) ?_
 refine A1 rfl rfl rfl (I4 rfl (A0 rfl)) ?_
 refine A4 rfl rfl rfl rfl rfl ?_
 refine A9 rfl rfl (C9 rfl rfl rfl) (fun hc => E4 0 rfl (A0 rfl) rfl I5 F8 rfl) ?_
 refine A9 rfl rfl (C9 rfl rfl rfl) (fun hc => D6 rfl Tryz.call139 rfl (AL0 _) (A7 (A8 rfl hc) C0)) ?_
 refine A9 rfl rfl (C9 rfl rfl rfl) (fun hc => I4 rfl (A8 rfl hc)) ?_
 refine A1 rfl rfl rfl (N4 rfl (A0 rfl) (E3 rfl)) ?_
 refine A4 rfl rfl rfl rfl rfl ?_
 refine A9 rfl rfl (C9 rfl rfl rfl) (fun hc => E4 1 rfl (A0 rfl) rfl F1 D3 rfl) ?_
 refine A9 rfl rfl (C9 rfl rfl rfl) (fun hc => E4 0 rfl (A0 rfl) rfl I5 F8 rfl) ?_
 refine A9 rfl rfl (C9 rfl rfl rfl) (fun hc => D6 rfl Tryz.call149 rfl (AE3 s x (by cases h2 : goodState s with | false => (simp [h2] at hc) | true => (have h8 := (i6.1 h2).floor; omega)) (by cases h2 : goodSpan x with | false => (simp [h2] at hc) | true => (have h8 := Y8.1 h2; omega))) (A7 (A8 rfl hc) (A7 (A8 rfl hc) C0))) ?_
 refine A9 rfl rfl (C9 rfl rfl rfl) (fun hc => O5 rfl (A8 rfl hc) B5) ?_
 refine A1 rfl rfl rfl (N4 rfl (A0 rfl) (E3 rfl)) ?_
 refine A5 ?_
 refine C8 (A0 rfl) ?_ ?_
 ·intro h19
  have he : leadR s x = (0, false) := by (unfold leadR; by_cases hq : (goodState s && goodSpan x) = true; (rw [if_pos hq, ifT_no]; simp only [Bool.and_eq_true] at hq; rw [hq.1, hq.2] at h19; simpa using h19); rw [if_neg hq])
  rw [he]
  refine A3 (A2 ?_)
  refine A1 rfl rfl rfl (B8 rfl B5) ?_
  refine A1 rfl rfl rfl (B8 rfl F0) ?_
  refine A5 ?_
  refine C6 ?_
  exact R5 rfl (by decide) (E6 (C3 rfl (by rfl)) (E6 (C3 rfl (by rfl)) I8))
 ·intro h19
  have hg : goodState s = true ∧ goodSpan x = true := by (cases h1 : goodState s <;> cases h2 : goodSpan x <;> simp_all)
  have hfl := (i6.1 hg.1).floor
  have hsp := Y8.1 hg.2
  have he : leadR s x = (mostI 1 (mostI (s.Floor + 1) (x.High + 10)), true) := by (unfold leadR; rw [if_pos (by rw [hg.1, hg.2]; rfl), AH8]; rw [hg.1, hg.2] at h19; simpa using h19)
  rw [he]
  refine D1 (A3 (A2 ?_))
  refine A1 rfl rfl rfl (E4 1 rfl (A0 rfl) rfl F1 D3 rfl) ?_
  refine A1 rfl rfl rfl (E4 0 rfl (A0 rfl) rfl I5 F8 rfl) ?_
  refine A1 rfl rfl rfl (D6 rfl Tryz.call149 rfl (AE3 s x (by omega) (by omega)) (A7 (A0 rfl) (A7 (A0 rfl) C0))) ?_
  refine B2 rfl rfl rfl rfl rfl ?_
  refine A1 rfl rfl rfl (B8 rfl F0) ?_
  refine A5 ?_
  refine C6 ?_
  exact R5 rfl (by decide) (E6 (C3 rfl (by rfl)) (E6 (C3 rfl (by rfl)) I8))
end Go.Proofs.YtnlhbdkcgaeimaaGreat

set_option linter.unusedVariables false
set_option linter.unusedSimpArgs false
set_option maxRecDepth 100000
set_option maxHeartbeats 2000000
namespace Go.Proofs.YtnlhbdkcgaeimaaGreat
open Go Go.AV Go.M
attribute [local irreducible] OpW OpA OpS AWP FSpec ESpec GSpec OpE RetOk RetOkG RvDen Le Ev GuardIs SrcIs SrcE Int.tmod Int.tdiv IntKind.wrap bandI
theorem quo19 {x : Int} (h0 : 0 ≤ x) (h1 : x < 20 ∨ x = 0) : IntKind.i64.wrap (Int.tdiv x 19) = Int.tdiv x 19 ∧ 0 ≤ Int.tdiv x 19 ∧ Int.tdiv x 19 ≤ 2 := by
  have hd : Int.tdiv x 19 = x / 19 := Int.tdiv_eq_ediv_of_nonneg h0
  have h2 : 0 ≤ Int.tdiv x 19 ∧ Int.tdiv x 19 ≤ 2 := by rw [hd]; omega
  exact ⟨w3 (by omega), h2⟩
theorem AL2 (b : Nat) (code : List Int) (hcode : ByteL code) (c : TCur) (hp : c.p ≤ 800000) : GSpec Tryz.prog 131 [AV.ptr b 0] [.box b 127 (curC code c)] (fun x : TCur × TSpan => x.1.p ≤ c.p + 10) (fun x => [.box b 127 (curC code x.1)]) (fun x => AV.agg x.2.cs) := by
 refine I2 Tryz.func131 rfl Tryz.ntmps131 rfl ?_
 refine A3 (A2 ?_)
 refine F3 rfl rfl rfl rfl Tryz.zeroValue82 rfl ?_
 intro b2
 refine A5 (A3 (A2 ?_))
 refine A4 rfl rfl rfl rfl rfl ?_
 refine G0 [1] rfl rfl rfl rfl Tryz.call100 rfl (N3 _ _ hcode _ _ (by omega) (by omega)) (A7 (A0 rfl) (A7 B5 C0)) rfl ?_
 intro x6 ok6
 refine A1 rfl rfl rfl (N1 rfl (A0 rfl) B5 (by first | omega | (simp only [A6, B0, B7, C1, B3, szR] at *; omega))) ?_
 refine B2 rfl rfl rfl rfl rfl ?_
 refine A5 (A3 (A2 ?_))
 refine A4 rfl rfl rfl rfl rfl ?_
 refine A4 rfl rfl rfl rfl rfl ?_
 refine A4 rfl rfl rfl rfl rfl ?_
 refine G0 [0] rfl rfl rfl rfl Tryz.call100 rfl (N3 _ _ hcode _ _ (by omega) (by omega)) (A7 (A0 rfl) (A7 B5 C0)) rfl ?_
 intro x11 ok11
 refine A1 rfl rfl rfl (G5 rfl (A0 rfl) (A0 rfl) (by first | omega | (simp only [A6, B0, B7, C1, B3, szR] at *; omega))) ?_
 refine A1 rfl rfl rfl (Q2 (places := #[(0, 1), (1, 1)]) rfl J5 Tryz.zeroValue82 (fun w => by kernel_rfl) rfl (E7 (A0 rfl) (K8 _ _) (E7 (A0 rfl) (K8 _ _) I6)) rfl) ?_
 refine F3 rfl rfl rfl rfl Tryz.zeroValue82 rfl ?_
 intro b4
 refine D5 0 rfl rfl rfl (A0 rfl) (A0 rfl) (E8 _) rfl F8 rfl ?_
 refine A5 (A3 (A3 ?_))
 refine K7 (by first | (simp only [splice, pick, O9, O4, N9, N7, O0, List.nil_append, P0, P1, List.append_nil, N8, List.take_zero, O1, List.drop_zero]; exact rfl) | exact rfl) ?_
 refine A2 ?_
 refine A4 rfl rfl rfl rfl rfl ?_
 refine G0 [1] rfl rfl rfl rfl Tryz.call100 rfl (N3 _ _ hcode _ _ (by omega) (by omega)) (A7 (A0 rfl) (A7 B5 C0)) rfl ?_
 intro x15 ok15
 refine A5 (D7 (A3 (A2 ?_)))
 refine A1 rfl rfl rfl (M5 rfl (A0 rfl) B5) ?_
 refine B2 rfl rfl rfl rfl rfl ?_
 refine A5 ?_
 refine C8 (A0 rfl) ?_ ?_
 ·intro h16
  have k16 := N6 h16; try simp only [A6] at k16
  refine K7 (by first | (simp only [splice, pick, O9, O4, N9, N7, O0, List.nil_append, P0, P1, List.append_nil, N8, List.take_zero, O1, List.drop_zero]; exact rfl) | exact rfl) ?_
  refine A2 ?_
  refine A4 rfl rfl rfl rfl rfl ?_
  refine A1 rfl rfl rfl (N1 rfl (A0 rfl) B5 (by first | omega | (simp only [A6, B0, B7, C1, B3, szR] at *; omega))) ?_
  refine A1 rfl rfl rfl (B6 1 rfl J5 rfl B9 (A0 rfl) rfl) ?_
  refine L0 1 rfl rfl rfl (A0 rfl) (A0 rfl) (K8 _ _) rfl B9 rfl ?_
  refine A5 (A3 ?_)
  refine K7 (by first | (simp only [splice, pick, O9, O4, N9, N7, O0, List.nil_append, P0, P1, List.append_nil, N8, List.take_zero, O1, List.drop_zero]; exact rfl) | exact rfl) ?_
  refine A2 ?_
  refine A1 rfl rfl rfl (E4 1 rfl (A0 rfl) rfl I5 F8 rfl) ?_
  refine D5 2 rfl rfl rfl (A0 rfl) (A0 rfl) (E8 _) rfl F8 rfl ?_
  refine A5 ?_
  refine C6 ?_
  (refine M8 [0] ((x15.1, ⟨x6.2 - 5, x6.2 - 5 - 1⟩)) ?_ rfl (by first | (dsimp only; rfl) | rfl) (Q4 rfl (K3 (ys := _) 2 rfl rfl I5 F8 rfl)); (dsimp only; omega))
 ·intro h16
  have k16 := N5 h16; try simp only [A6] at k16
  refine A3 (A2 ?_)
  refine A1 rfl rfl rfl (M5 rfl (A0 rfl) B5) ?_
  refine B2 rfl rfl rfl rfl rfl ?_
  refine A5 ?_
  refine C8 (A0 rfl) ?_ ?_
  ·intro h21
   have k21 := N6 h21; try simp only [A6] at k21
   refine K7 (by first | (simp only [splice, pick, O9, O4, N9, N7, O0, List.nil_append, P0, P1, List.append_nil, N8, List.take_zero, O1, List.drop_zero]; exact rfl) | exact rfl) ?_
   refine A2 ?_
   refine A1 rfl rfl rfl (Q2 (places := #[(0, 1), (1, 1)]) rfl J5 Tryz.zeroValue82 (fun w => by kernel_rfl) rfl (E7 B5 (K8 _ _) (E7 B5 (K8 _ _) I6)) rfl) ?_
   refine D5 1 rfl rfl rfl (A0 rfl) (A0 rfl) (E8 _) rfl F8 rfl ?_
   refine A5 (A3 ?_)
   refine K7 (by first | (simp only [splice, pick, O9, O4, N9, N7, O0, List.nil_append, P0, P1, List.append_nil, N8, List.take_zero, O1, List.drop_zero]; exact rfl) | exact rfl) ?_
   refine A2 ?_
   refine A1 rfl rfl rfl (E4 1 rfl (A0 rfl) rfl I5 F8 rfl) ?_
   refine D5 2 rfl rfl rfl (A0 rfl) (A0 rfl) (E8 _) rfl F8 rfl ?_
   refine A5 ?_
   refine C6 ?_
   (refine M8 [0] ((x15.1, ⟨-10, 100010⟩)) ?_ rfl (by first | (dsimp only; rfl) | rfl) (Q4 rfl (K3 (ys := _) 2 rfl rfl I5 F8 rfl)); (dsimp only; omega))
  ·intro h21
   have k21 := N5 h21; try simp only [A6] at k21
   refine A3 (A2 ?_)
   refine A1 rfl rfl rfl (M5 rfl (A0 rfl) B5) ?_
   refine B2 rfl rfl rfl rfl rfl ?_
   refine A5 ?_
   refine C8 (A0 rfl) ?_ ?_
   ·intro h24
    have k24 := N6 h24; try simp only [A6] at k24
    refine K7 (by first | (simp only [splice, pick, O9, O4, N9, N7, O0, List.nil_append, P0, P1, List.append_nil, N8, List.take_zero, O1, List.drop_zero]; exact rfl) | exact rfl) ?_
    refine A2 ?_
    refine A1 rfl rfl rfl (B6 1 rfl J5 rfl B9 (A0 rfl) rfl) ?_
    refine L0 1 rfl rfl rfl (A0 rfl) B5 (K8 _ _) rfl B9 rfl ?_
    refine A5 (A3 ?_)
    refine K7 (by first | (simp only [splice, pick, O9, O4, N9, N7, O0, List.nil_append, P0, P1, List.append_nil, N8, List.take_zero, O1, List.drop_zero]; exact rfl) | exact rfl) ?_
    refine A2 ?_
    refine A1 rfl rfl rfl (E4 1 rfl (A0 rfl) rfl I5 F8 rfl) ?_
    refine D5 2 rfl rfl rfl (A0 rfl) (A0 rfl) (E8 _) rfl F8 rfl ?_
    refine A5 ?_
    refine C6 ?_
    (refine M8 [0] ((x15.1, ⟨x6.2 - 5, 100011⟩)) ?_ rfl (by first | (dsimp only; rfl) | rfl) (Q4 rfl (K3 (ys := _) 2 rfl rfl I5 F8 rfl)); (dsimp only; omega))
   ·intro h24
    have k24 := N5 h24; try simp only [A6] at k24
    refine D1 (A3 ?_)
    refine K7 (by first | (simp only [splice, pick, O9, O4, N9, N7, O0, List.nil_append, P0, P1, List.append_nil, N8, List.take_zero, O1, List.drop_zero]; exact rfl) | exact rfl) ?_
    refine A2 ?_
    refine A1 rfl rfl rfl (E4 1 rfl (A0 rfl) rfl I5 F8 rfl) ?_
    refine D5 2 rfl rfl rfl (A0 rfl) (A0 rfl) (E8 _) rfl F8 rfl ?_
    refine A5 ?_
    refine C6 ?_
    (refine M8 [0] ((x15.1, ⟨x6.2 - 5, x6.2 - 5 + x11.2⟩)) ?_ rfl (by first | (dsimp only; rfl) | rfl) (Q4 rfl (K3 (ys := _) 2 rfl rfl I5 F8 rfl)); (dsimp only; omega))
theorem AH9 (b : Nat) (code : List Int) (hcode : ByteL code) (c : TCur) (hp : c.p ≤ 800000) : GSpec Tryz.prog 141 [AV.ptr b 0] [.box b 127 (curC code c)] (fun x : TCur × TClock => x.1.p ≤ c.p + 10) (fun x => [.box b 127 (curC code x.1)]) (fun x => AV.agg x.2.cs) := by
 refine I2 Tryz.func141 rfl Tryz.ntmps141 rfl ?_
 refine A3 (A2 ?_)
 refine F3 rfl rfl rfl rfl Tryz.zeroValue88 rfl ?_
 intro b2
 refine A5 (A3 (A2 ?_))
 refine A4 rfl rfl rfl rfl rfl ?_
 refine G0 [1] rfl rfl rfl rfl Tryz.call100 rfl (N3 _ _ hcode _ _ (by omega) (by omega)) (A7 (A0 rfl) (A7 B5 C0)) rfl ?_
 intro x5 ok5
 refine A1 rfl rfl rfl (N1 rfl (A0 rfl) B5 (by first | omega | (simp only [A6, B0, B7, C1, B3, szR] at *; omega))) ?_
 refine A1 rfl rfl rfl (Q2 (places := #[(0, 1)]) rfl T4 Tryz.zeroValue88 (fun w => by kernel_rfl) rfl (E7 (A0 rfl) (K8 _ _) I6) rfl) ?_
 refine F3 rfl rfl rfl rfl Tryz.zeroValue88 rfl ?_
 intro b3
 refine D5 0 rfl rfl rfl (A0 rfl) (A0 rfl) (E8 _) rfl H6 rfl ?_
 refine A5 (A3 (A3 ?_))
 refine K7 (by first | (simp only [splice, pick, O9, O4, N9, N7, O0, List.nil_append, P0, P1, List.append_nil, N8, List.take_zero, O1, List.drop_zero]; exact rfl) | exact rfl) ?_
 refine A2 ?_
 refine A4 rfl rfl rfl rfl rfl ?_
 refine G0 [1] rfl rfl rfl rfl Tryz.call79 rfl (r3 _ _ hcode _ _ (by omega) (by omega)) (A7 (A0 rfl) (A7 B5 C0)) rfl ?_
 intro x9 ok9
 refine A5 ?_
 refine C8 (A0 rfl) ?_ ?_
 ·intro h9
  refine K7 (by first | (simp only [splice, pick, O9, O4, N9, N7, O0, List.nil_append, P0, P1, List.append_nil, N8, List.take_zero, O1, List.drop_zero]; exact rfl) | exact rfl) ?_
  refine A2 ?_
  refine A4 rfl rfl rfl rfl rfl ?_
  refine A1 rfl rfl rfl (M3 rfl I0 B9 Tryz.zeroValue3 rfl rfl rfl rfl (E7 B5 (K8 _ _) (E7 B5 (K8 _ _) I6)) rfl rfl) ?_
  refine G0 [0] rfl rfl rfl rfl Tryz.call129 rfl (m0 _ _ hcode _ ([(6), (-6)] : List Int) (by decide) (by omega)) (A7 (A0 rfl) (A7 (A0 rfl) C0)) rfl ?_
  intro x12 ok12
  refine A1 rfl rfl rfl (B6 0 rfl T4 rfl B9 (A0 rfl) rfl) ?_
  refine L0 1 rfl rfl rfl (A0 rfl) (A0 rfl) (K8 _ _) rfl B9 rfl ?_
  refine A5 (A3 ?_)
  refine K7 (by first | (simp only [splice, pick, O9, O4, N9, N7, O0, List.nil_append, P0, P1, List.append_nil, N8, List.take_zero, O1, List.drop_zero]; exact rfl) | exact rfl) ?_
  refine A2 ?_
  refine A1 rfl rfl rfl (E4 1 rfl (A0 rfl) rfl L4 H6 rfl) ?_
  refine D5 2 rfl rfl rfl (A0 rfl) (A0 rfl) (E8 _) rfl H6 rfl ?_
  refine A5 ?_
  refine C6 ?_
  (refine M8 [0] ((x12.1, ⟨x12.2⟩)) ?_ rfl (by first | (dsimp only; rfl) | rfl) (Q4 rfl (K3 (ys := _) 2 rfl rfl L4 H6 rfl)); (dsimp only; omega))
 ·intro h9
  refine D1 (A3 ?_)
  refine K7 (by first | (simp only [splice, pick, O9, O4, N9, N7, O0, List.nil_append, P0, P1, List.append_nil, N8, List.take_zero, O1, List.drop_zero]; exact rfl) | exact rfl) ?_
  refine A2 ?_
  refine A1 rfl rfl rfl (E4 1 rfl (A0 rfl) rfl L4 H6 rfl) ?_
  refine D5 2 rfl rfl rfl (A0 rfl) (A0 rfl) (E8 _) rfl H6 rfl ?_
  refine A5 ?_
  refine C6 ?_
  (refine M8 [0] ((x9.1, ⟨x5.2 - 5⟩)) ?_ rfl (by first | (dsimp only; rfl) | rfl) (Q4 rfl (K3 (ys := _) 2 rfl rfl L4 H6 rfl)); (dsimp only; omega))
theorem z6 (b : Nat) (code : List Int) (hcode : ByteL code) (c : TCur) (hp : c.p ≤ 800000) : GSpec Tryz.prog 142 [AV.ptr b 0] [.box b 127 (curC code c)] (fun x : TCur × Int => x.1.p ≤ c.p + 10 ∧ -1000000 ≤ x.2 ∧ x.2 ≤ 1000000) (fun x => [.box b 127 (curC code x.1)]) (fun x => AV.int x.2) := by
 refine I2 Tryz.func142 rfl Tryz.ntmps142 rfl ?_
 refine A3 (A2 ?_)
 refine A1 rfl rfl rfl (B8 rfl B5) ?_
 refine A5 (A3 (A2 ?_))
 refine A4 rfl rfl rfl rfl rfl ?_
 refine A1 rfl rfl rfl (M3 rfl I0 B9 Tryz.zeroValue3 rfl rfl rfl rfl (E7 B5 (K8 _ _) (E7 B5 (K8 _ _) (E7 B5 (K8 _ _) (E7 B5 (K8 _ _) (E7 B5 (K8 _ _) (E7 B5 (K8 _ _) (E7 B5 (K8 _ _) (E7 B5 (K8 _ _) (E7 B5 (K8 _ _) I6))))))))) rfl rfl) ?_
 refine G0 [0] rfl rfl rfl rfl Tryz.call129 rfl (m0 _ _ hcode _ ([(0), (1), (3), (7), (10), (20), (50), (100), (100000)] : List Int) (by decide) (by omega)) (A7 (A0 rfl) (A7 (A0 rfl) C0)) rfl ?_
 intro x5 ok5
 refine B2 rfl rfl rfl rfl rfl ?_
 refine A5 ?_
 refine C6 ?_
 (refine M8 [0] ((x5.1, x5.2)) ?_ rfl (by first | (dsimp only; rfl) | rfl) (Q4 rfl (C3 rfl (by rfl))); (have h9 := ok5.2; simp at h9; dsimp only; omega))
theorem AE6 (code : List Int) (hcode : ByteL code) : GSpec Tryz.prog 45 [bytesI code] [] (fun x : (List Int × TSpan) × Value => True) (fun x => [.arr x.2 3 1 (x.1.1.map fun n => [AV.int n])]) (fun x => AV.tup [AV.is x.2, AV.agg x.1.2.cs]) := by
 refine I2 Tryz.func45 rfl Tryz.ntmps45 rfl ?_
 refine A3 (A2 ?_)
 refine A1 rfl rfl rfl (B8 rfl Q7) ?_
 refine F3 rfl rfl rfl rfl Tryz.zeroValue82 rfl ?_
 intro b3
 refine A5 (A3 (A2 ?_))
 refine A4 rfl rfl rfl rfl rfl ?_
 refine A1 rfl rfl rfl (Q2 (places := #[(0, 1), (1, 1), (2, 1)]) rfl J2 Tryz.zeroValue127 (fun w => by kernel_rfl) rfl (E7 (A0 rfl) (W1 _ _) I6) rfl) ?_
 refine J6 rfl rfl rfl rfl (A0 rfl) ?_
 intro b9
 refine B2 rfl rfl rfl rfl rfl ?_
 refine A5 (A3 (A2 ?_))
 refine a7 3 1 rfl rfl rfl rfl Q7 ?_
 intro v5
 refine A5 (A3 (A3 (A2 ?_)))
 refine A4 rfl rfl rfl rfl rfl ?_
 refine G0 [1] rfl rfl rfl rfl Tryz.call100 rfl (N3 _ _ hcode ⟨0, 0⟩ _ (by omega) (by decide)) (A7 (A0 rfl) (A7 B5 C0)) rfl ?_
 intro x11 ok11
 have hp11 : x11.1.p ≤ 2 := by (have h9 := ok11.1; dsimp only at h9; omega)
 refine B2 rfl rfl rfl rfl rfl ?_
 refine A5 (D7 ?_)
 refine AWP.le (K1 [0, 0] rfl) ?_
 refine g9 [(2, _), (3, _), (4, _)] _ (fun (n : Int) (cc : TCur) (l : List Int) (v : Value) => (0 ≤ n ∧ n + l.length ≤ 5) ∧ cc.p + 4 * n ≤ 100) (fun (n : Int) (cc : TCur) (l : List Int) (v : Value) => [.box b9 127 (curC code cc), .arr v 3 1 (l.map fun n => [AV.int n])]) (fun (n : Int) (cc : TCur) (l : List Int) (v : Value) => [(5, AV.is v), (6, AV.int n)]) (fun (n : Int) (cc : TCur) (l : List Int) (v : Value) => n.toNat) (x11.2) (x11.1) ([]) (v5) ?_ (S7 (by rfl) ⟨rfl, rfl, rfl, rfl, rfl, trivial⟩) ?_
 ·exact ⟨⟨by omega, by simp; omega⟩, by omega⟩
 intro n cc l v hinv
 refine A3 (A3 (A2 ?_))
 refine A4 rfl rfl rfl rfl rfl ?_
 refine A1 rfl rfl rfl (O5 rfl (A0 rfl) B5) ?_
 refine A5 ?_
 refine C8 (A0 rfl) ?_ ?_
 ·intro h13
  have k13 := of_decide_eq_true h13; try simp only [A6] at k13
  refine D1 (A3 (D7 (A2 ?_)))
  refine A4 rfl rfl rfl rfl rfl ?_
  refine A4 rfl rfl rfl rfl rfl ?_
  refine G0 [0] rfl rfl rfl rfl Tryz.call100 rfl (N3 _ _ hcode _ _ (by omega) (by omega)) (A7 (A0 rfl) (A7 B5 C0)) rfl ?_
  intro x18 ok18
  refine A1 rfl rfl rfl (G5 rfl B5 (A0 rfl) (by first | omega | (simp only [A6, B0, B7, C1, B3, szR] at *; omega))) ?_
  refine A4 rfl rfl rfl rfl rfl ?_
  refine G0 [0] rfl rfl rfl rfl Tryz.call100 rfl (N3 _ _ hcode _ _ (by omega) (by omega)) (A7 (A0 rfl) (A7 B5 C0)) rfl ?_
  intro x21 ok21
  have h21 := quo19 ok21.2.1 ok21.2.2
  refine A1 rfl rfl rfl (AX9 rfl (A0 rfl) B5 (by first | omega | (simp only [A6, B0, B7, C1, B3, szR] at *; omega))) ?_
  refine A1 rfl rfl rfl (N1 rfl (A0 rfl) (A0 rfl) (by rw [h21.1]; omega)) ?_
  refine A1 rfl rfl rfl (M3 rfl I0 B9 Tryz.zeroValue3 rfl rfl rfl rfl (E7 (A0 rfl) (K8 _ _) I6) rfl rfl) ?_
  refine M9 (by' := 8) 1 rfl rfl rfl rfl I0 Tryz.type3 rfl rfl rfl rfl rfl rfl (A0 rfl) (A0 rfl) rfl (by first | omega | (simp only [A6, B0, B7, C1, B3, szR] at *; omega)) ?_
  intro v25_1
  refine B2 rfl rfl rfl rfl rfl ?_
  refine A5 (A2 ?_)
  refine A4 rfl rfl rfl rfl rfl ?_
  refine A1 rfl rfl rfl (N1 rfl (A0 rfl) B5 (by first | omega | (simp only [A6, B0, B7, C1, B3, szR] at *; omega))) ?_
  refine B2 rfl rfl rfl rfl rfl ?_
  refine A5 ?_
  refine W6 n cc l v (n - 1) (x21.1) (l ++ [1 + x18.2 - IntKind.i64.wrap (Int.tdiv x21.2 19)]) (v25_1) ?_ ?_ (Le.trans (K1 [0, 0] rfl) (S7 (by first | rfl | (rw [List.map_append]; rfl)) ⟨rfl, rfl, rfl, rfl, rfl, trivial⟩))
  ·exact ⟨⟨by omega, by rw [J9]; simp; omega⟩, by omega⟩
  ·omega
 ·intro h13
  have k13 := of_decide_eq_false h13; try simp only [A6] at k13
  refine H4 ?_
  refine A3 (A2 ?_)
  refine A4 rfl rfl rfl rfl rfl ?_
  refine A4 rfl rfl rfl rfl rfl ?_
  refine G0 [0] rfl rfl rfl rfl Tryz.call131 rfl (AL2 _ _ hcode _ (by omega)) (A7 (A0 rfl) C0) rfl ?_
  intro x28 ok28
  refine B2 rfl rfl rfl rfl rfl ?_
  refine D5 2 rfl rfl rfl (A0 rfl) (A0 rfl) (E8 _) rfl F8 rfl ?_
  refine A5 ?_
  refine C6 ?_
  exact M8 [1] (((l, x28.2), v)) (trivial) rfl (by rfl) (Y0 rfl (by decide) (E6 (C3 rfl (by rfl)) (E6 (K3 (ys := _) 2 rfl rfl I5 F8 rfl) I8)))
theorem AI0 (code : List Int) (hcode : ByteL code) : GSpec Tryz.prog 45 [bytesI code] [] (fun x : List Int × TSpan => True) (fun x => []) (fun x => AV.tup [ints x.1, AV.agg x.2.cs]) :=
  AK0 (fun x => x.1) (fun x => [.arr x.2 3 1 (x.1.1.map fun n => [AV.int n])]) (fun x => []) (AE6 code hcode) (fun _ h => h) (fun x _ => lt_tup (H2 (N2 (G6 (i := 0) rfl) I9) (H2 L8 T9))) (fun x _ => List.Perm.refl _) (fun _ _ => S8) (fun x _ => oc_nil)
theorem g7 (code : List Int) (hcode : ByteL code) : GSpec Tryz.prog 49 [bytesI code] [] (fun x : TClock × Int => -2000000 ≤ x.2 ∧ x.2 ≤ 2000000) (fun x => []) (fun x => AV.tup [AV.agg x.1.cs, AV.int x.2]) := by
 refine I2 Tryz.func49 rfl Tryz.ntmps49 rfl ?_
 refine A3 (A2 ?_)
 refine F3 rfl rfl rfl rfl Tryz.zeroValue88 rfl ?_
 intro b2
 refine A1 rfl rfl rfl (B8 rfl B5) ?_
 refine A5 (A3 (A2 ?_))
 refine A4 rfl rfl rfl rfl rfl ?_
 refine A1 rfl rfl rfl (Q2 (places := #[(0, 1), (1, 1), (2, 1)]) rfl J2 Tryz.zeroValue127 (fun w => by kernel_rfl) rfl (E7 (A0 rfl) (W1 _ _) I6) rfl) ?_
 refine J6 rfl rfl rfl rfl (A0 rfl) ?_
 intro b7
 refine B2 rfl rfl rfl rfl rfl ?_
 refine A5 (A3 (A2 ?_))
 refine A4 rfl rfl rfl rfl rfl ?_
 refine G0 [0] rfl rfl rfl rfl Tryz.call141 rfl (AH9 _ _ hcode ⟨0, 0⟩ (by decide)) (A7 (A0 rfl) C0) rfl ?_
 intro x9 ok9
 have hp9 : x9.1.p ≤ 10 := by (have h9 := ok9; dsimp only at h9; omega)
 refine A4 rfl rfl rfl rfl rfl ?_
 refine G0 [0] rfl rfl rfl rfl Tryz.call142 rfl (z6 _ _ hcode _ (by omega)) (A7 (A0 rfl) C0) rfl ?_
 intro x11 ok11
 refine A4 rfl rfl rfl rfl rfl ?_
 refine G0 [0] rfl rfl rfl rfl Tryz.call100 rfl (N3 _ _ hcode _ _ (by omega) (by omega)) (A7 (A0 rfl) (A7 B5 C0)) rfl ?_
 intro x13 ok13
 have h13 := quo19 ok13.2.1 ok13.2.2
 refine A1 rfl rfl rfl (AX9 rfl (A0 rfl) B5 (by first | omega | (simp only [A6, B0, B7, C1, B3, szR] at *; omega))) ?_
 refine A1 rfl rfl rfl (N1 rfl (A0 rfl) (A0 rfl) (by rw [h13.1]; omega)) ?_
 refine A4 rfl rfl rfl rfl rfl ?_
 refine G0 [0] rfl rfl rfl rfl Tryz.call100 rfl (N3 _ _ hcode _ _ (by omega) (by omega)) (A7 (A0 rfl) (A7 B5 C0)) rfl ?_
 intro x17 ok17
 have h17 := quo19 ok17.2.1 ok17.2.2
 refine A1 rfl rfl rfl (AX9 rfl (A0 rfl) B5 (by first | omega | (simp only [A6, B0, B7, C1, B3, szR] at *; omega))) ?_
 refine A1 rfl rfl rfl (G5 rfl (A0 rfl) (A0 rfl) (by rw [h13.1, h17.1]; omega)) ?_
 refine D5 1 rfl rfl rfl (A0 rfl) (A0 rfl) (E8 _) rfl H6 rfl ?_
 refine B2 rfl rfl rfl rfl rfl ?_
 refine A5 ?_
 refine C6 ?_
 (refine M8 [] ((x9.2, _)) ?_ rfl (by first | (dsimp only; rfl) | rfl) (Y0 rfl (by decide) (E6 (K3 (ys := _) 1 rfl rfl L4 H6 rfl) (E6 (C3 rfl (by rfl)) I8))); (dsimp only; rw [h13.1, h17.1]; omega))
theorem U8 (code : List Int) (hcode : ByteL code) : GSpec Tryz.prog 50 [bytesI code] [] (fun x : TState × TSpan => x.1.size ≤ 33045) (fun x => []) (fun x => AV.tup [AV.agg x.1.cs, AV.agg x.2.cs]) := by
 refine I2 Tryz.func50 rfl Tryz.ntmps50 rfl ?_
 refine A3 (A2 ?_)
 refine F3 rfl rfl rfl rfl Tryz.zeroValue30 rfl ?_
 intro b2
 refine F3 rfl rfl rfl rfl Tryz.zeroValue82 rfl ?_
 intro b3
 refine A5 (A3 (A2 ?_))
 refine A4 rfl rfl rfl rfl rfl ?_
 refine A1 rfl rfl rfl (Q2 (places := #[(0, 1), (1, 1), (2, 1)]) rfl J2 Tryz.zeroValue127 (fun w => by kernel_rfl) rfl (E7 (A0 rfl) (W1 _ _) I6) rfl) ?_
 refine J6 rfl rfl rfl rfl (A0 rfl) ?_
 intro b7
 refine B2 rfl rfl rfl rfl rfl ?_
 refine A5 (A3 (A2 ?_))
 refine A4 rfl rfl rfl rfl rfl ?_
 refine G0 [0] rfl rfl rfl rfl Tryz.call99 rfl (w8 _ _ hcode ⟨0, 0⟩ (by decide)) (A7 (A0 rfl) C0) rfl ?_
 intro x9 ok9
 have hp9 : x9.1.p ≤ 1310 := by (have h9 := ok9.1; dsimp only at h9; omega)
 refine A4 rfl rfl rfl rfl rfl ?_
 refine G0 [0] rfl rfl rfl rfl Tryz.call131 rfl (AL2 _ _ hcode _ (by omega)) (A7 (A0 rfl) C0) rfl ?_
 intro x11 ok11
 refine D5 2 rfl rfl rfl (A0 rfl) (A0 rfl) (E8 _) rfl D3 rfl ?_
 refine D5 1 rfl rfl rfl (A0 rfl) (A0 rfl) (E8 _) rfl F8 rfl ?_
 refine A5 ?_
 refine C6 ?_
 (refine M8 [] ((x9.2, x11.2)) ?_ rfl (by first | (dsimp only; rfl) | rfl) (Y0 rfl (by decide) (E6 (K3 (ys := _) 2 rfl rfl F1 D3 rfl) (E6 (K3 (ys := _) 1 rfl rfl I5 F8 rfl) I8))); exact ok9.2.1)
theorem AQ2 (code : List Int) (hcode : ByteL code) : GSpec Tryz.prog 146 [bytesI code] [] (fun x : TClock × Int × Int => True) (fun x => []) (fun x => AV.tup [AV.agg x.1.cs, AV.int x.2.1, AV.int x.2.2]) := by
 refine I2 Tryz.func146 rfl Tryz.ntmps146 rfl ?_
 refine A3 (A2 ?_)
 refine F3 rfl rfl rfl rfl Tryz.zeroValue88 rfl ?_
 intro b2
 refine A1 rfl rfl rfl (B8 rfl B5) ?_
 refine A1 rfl rfl rfl (B8 rfl B5) ?_
 refine A5 (A3 (A2 ?_))
 refine A4 rfl rfl rfl rfl rfl ?_
 refine A1 rfl rfl rfl (Q2 (places := #[(0, 1), (1, 1), (2, 1)]) rfl J2 Tryz.zeroValue127 (fun w => by kernel_rfl) rfl (E7 (A0 rfl) (W1 _ _) I6) rfl) ?_
 refine J6 rfl rfl rfl rfl (A0 rfl) ?_
 intro b8
 refine B2 rfl rfl rfl rfl rfl ?_
 refine A5 (A3 (A2 ?_))
 refine A4 rfl rfl rfl rfl rfl ?_
 refine G0 [0] rfl rfl rfl rfl Tryz.call141 rfl (AH9 _ _ hcode ⟨0, 0⟩ (by decide)) (A7 (A0 rfl) C0) rfl ?_
 intro x10 ok10
 have hp10 : x10.1.p ≤ 10 := by (have h9 := ok10; dsimp only at h9; omega)
 refine A4 rfl rfl rfl rfl rfl ?_
 refine G0 [0] rfl rfl rfl rfl Tryz.call142 rfl (z6 _ _ hcode _ (by omega)) (A7 (A0 rfl) C0) rfl ?_
 intro x12 ok12
 refine A4 rfl rfl rfl rfl rfl ?_
 refine G0 [0] rfl rfl rfl rfl Tryz.call142 rfl (z6 _ _ hcode _ (by omega)) (A7 (A0 rfl) C0) rfl ?_
 intro x14 ok14
 refine D5 1 rfl rfl rfl (A0 rfl) (A0 rfl) (E8 _) rfl H6 rfl ?_
 refine B2 rfl rfl rfl rfl rfl ?_
 refine B2 rfl rfl rfl rfl rfl ?_
 refine A5 ?_
 refine C6 ?_
 exact M8 [] ((x10.2, x12.2, x14.2)) (trivial) rfl (by rfl) (Y0 rfl (by decide) (E6 (K3 (ys := _) 1 rfl rfl L4 H6 rfl) (E6 (C3 rfl (by rfl)) (E6 (C3 rfl (by rfl)) I8))))
theorem a6 (code : List Int) (hcode : ByteL code) : GSpec Tryz.prog 56 [bytesI code] [] (fun x : TClock × Int × Int => True) (fun x => []) (fun x => AV.tup [AV.agg x.1.cs, AV.int x.2.1, AV.int x.2.2]) := by
 refine I2 Tryz.func56 rfl Tryz.ntmps56 rfl ?_
 refine A3 (A2 ?_)
 refine F3 rfl rfl rfl rfl Tryz.zeroValue88 rfl ?_
 intro b2
 refine A1 rfl rfl rfl (B8 rfl B5) ?_
 refine A1 rfl rfl rfl (B8 rfl B5) ?_
 refine A5 (A3 (A2 ?_))
 refine A4 rfl rfl rfl rfl rfl ?_
 refine G0 [] rfl rfl rfl rfl Tryz.call146 rfl (AQ2 code hcode) (A7 (A0 rfl) C0) rfl ?_
 intro x6 ok6
 refine A1 rfl rfl rfl (D0 rfl (A0 rfl) rfl) ?_
 refine A1 rfl rfl rfl (D0 rfl (A0 rfl) rfl) ?_
 refine A1 rfl rfl rfl (D0 rfl (A0 rfl) rfl) ?_
 refine D5 0 rfl rfl rfl (A0 rfl) (A0 rfl) (E8 _) rfl H6 rfl ?_
 refine B2 rfl rfl rfl rfl rfl ?_
 refine B2 rfl rfl rfl rfl rfl ?_
 refine A5 ?_
 refine C6 ?_
 exact M8 [] ((x6.1, x6.2.1, x6.2.2)) (trivial) rfl (by rfl) (Y0 rfl (by decide) (E6 (K3 (ys := _) 0 rfl rfl L4 H6 rfl) (E6 (C3 rfl (by rfl)) (E6 (C3 rfl (by rfl)) I8))))
theorem d7 (code : List Int) (hcode : ByteL code) : GSpec Tryz.prog 59 [bytesI code] [] (fun x : TState × Str × Int => x.1.size ≤ 33045 ∧ x.2.1.length ≤ 64) (fun x => []) (fun x => AV.tup [AV.agg x.1.cs, AV.str x.2.1, AV.int x.2.2]) := by
 refine I2 Tryz.func59 rfl Tryz.ntmps59 rfl ?_
 refine A3 (A2 ?_)
 refine F3 rfl rfl rfl rfl Tryz.zeroValue30 rfl ?_
 intro b2
 refine A1 rfl rfl rfl (B8 rfl (Q3 (l := []) rfl)) ?_
 refine A1 rfl rfl rfl (B8 rfl B5) ?_
 refine A5 (A3 (A2 ?_))
 refine A4 rfl rfl rfl rfl rfl ?_
 refine G0 [] rfl rfl rfl rfl Tryz.call33 rfl (AJ1 code hcode) (A7 (A0 rfl) C0) rfl ?_
 intro x6 ok6
 refine A1 rfl rfl rfl (D0 rfl (A0 rfl) rfl) ?_
 refine A1 rfl rfl rfl (D0 rfl (A0 rfl) rfl) ?_
 refine A1 rfl rfl rfl (D0 rfl (A0 rfl) rfl) ?_
 refine D5 0 rfl rfl rfl (A0 rfl) (A0 rfl) (E8 _) rfl D3 rfl ?_
 refine B2 rfl rfl rfl rfl rfl ?_
 refine B2 rfl rfl rfl rfl rfl ?_
 refine A5 ?_
 refine C6 ?_
 (refine M8 [] ((x6.1, x6.2.1, x6.2.2)) ?_ rfl (by first | (dsimp only; rfl) | rfl) (Y0 rfl (by decide) (E6 (K3 (ys := _) 0 rfl rfl F1 D3 rfl) (E6 (C3 rfl (by rfl)) (E6 (C3 rfl (by rfl)) I8)))); exact ok6)
end Go.Proofs.YtnlhbdkcgaeimaaGreat

set_option linter.unusedVariables false
set_option linter.unusedSimpArgs false
set_option maxRecDepth 100000
set_option maxHeartbeats 2000000
namespace Go.M
open Go.AV
theorem dec_ok {l : List Int} {s : TSpan} (h : (decT l s).2 = true) : ∃ t, decT l s = (t, true) ∧ s.High < t ∧ (∀ x ∈ l, x ≤ t) ∧ tellR s t = (false, true) := by
  unfold decT at h ⊢
  split at h
  · rename_i hg
    rw [if_pos hg]
    simp only [Bool.and_eq_true, List.all_eq_true] at hg
    have hle : maxAll (s.High + 1) l ≤ 100000 := by unfold ifT at h; simpa using h
    obtain ⟨m1, m2⟩ := AW0 (l := l) (m := s.High + 1)
    have hs := Y8.1 hg.2
    refine ⟨maxAll (s.High + 1) l, AH8 hle, by omega, m2, ?_⟩
    have hl : 1 ≤ (l.length : Int) := by have h9 := hg.1.1; unfold within at h9; simp only [Bool.and_eq_true, decide_eq_true_eq] at h9; exact h9.1
    have h1 : 1 ≤ maxAll (s.High + 1) l := by
      cases l with
      | nil => simp at hl
      | cons y q => have := AD5.1 (hg.1.2 y List.mem_cons_self); have := m2 y List.mem_cons_self; omega
    unfold tellR
    rw [if_pos (by rw [hg.2, AD5.2 ⟨h1, hle⟩]; rfl), decide_eq_false (by omega)]
  · cases h
theorem dec_len {l : List Int} {s : TSpan} (h : (decT l s).2 = true) : l.length ≤ 4 := by
  unfold decT at h
  split at h
  · rename_i hg
    simp only [Bool.and_eq_true] at hg
    have h9 := hg.1.1; unfold within at h9; simp only [Bool.and_eq_true, decide_eq_true_eq] at h9; omega
  · cases h
theorem AI8 {c : TClock} {n : Int} (h : (spanR c n).2 = true) : spanR c n = (spanOf c n, true) ∧ (-5 ≤ c.Off ∧ c.Off ≤ 5) ∧ 0 ≤ n ∧ n ≤ 100000 := by
  unfold spanR at h ⊢
  split at h
  · rename_i hg
    rw [if_pos hg]
    simp only [Bool.and_eq_true] at hg
    exact ⟨rfl, Z2.1 hg.1, T7.1 hg.2⟩
  · cases h
theorem AW2 {x y : TSpan} {s : TState} (h1 : (lookR x).2 = true) (h2 : (leadR s y).2 = true) (h : x.High ≤ y.High + 10) : ¬ (leadR s y).1 < (lookR x).1 := by
  unfold lookR at h1 ⊢
  unfold leadR at h2 ⊢
  split at h1
  · split at h2
    · rename_i hx hy
      rw [if_pos hx, if_pos hy]
      have a1 : mostI x.High 1 ≤ 100000 := by unfold ifT at h1; simpa using h1
      have a2 : mostI 1 (mostI (s.Floor + 1) (y.High + 10)) ≤ 100000 := by unfold ifT at h2; simpa using h2
      rw [AH8 a1, AH8 a2]
      have m1 := t6 1 (mostI (s.Floor + 1) (y.High + 10))
      have m2 := t6 (s.Floor + 1) (y.High + 10)
      have m3 := t6 x.High 1
      dsimp only; omega
    · cases h2
  · cases h1
theorem AQ3 {c : TClock} {n : Int} (hc : -5 ≤ c.Off ∧ c.Off ≤ 5) (h0 : 0 ≤ n) (hn : n < 90000) : ∃ t, afterR c n (1 + n) = (t, true) ∧ stampR n (1 + n) t = (true, true) := by
  have hlow : (spanOf c n).Low = n + c.Off - 5 := rfl
  have hw : waitBy c n (1 + n) = 7 - c.Off := by unfold waitBy mostI; split <;> omega
  have hwr : waitR c n (1 + n) = (7 - c.Off, true) := by
    unfold waitR
    rw [if_pos (by rw [Z2.2 hc, T7.2 ⟨h0, by omega⟩, T7.2 ⟨by omega, by omega⟩]; rfl), hw, if_pos (by omega)]
  refine ⟨n + (7 - c.Off), ?_, ?_⟩
  · unfold afterR
    rw [hwr, if_pos (by rw [AD5.2 ⟨by omega, by omega⟩]; rfl)]
  · unfold stampR
    rw [if_pos (by rw [T7.2 ⟨h0, by omega⟩, T7.2 ⟨by omega, by omega⟩, T7.2 ⟨by omega, by omega⟩]; rfl), decide_eq_true (by omega), decide_eq_true (by omega)]; rfl
end Go.M
namespace Go.Proofs.YtnlhbdkcgaeimaaGreat
open Go Go.AV Go.M
open Go.ChangeShapes Go.WideShapes Go.ChangeAt Go.RowKit
section
attribute [local irreducible] OpW OpA OpS AWP FSpec ESpec GSpec OpE RetOk RetOkG RvDen Le Ev GuardIs SrcIs SrcE Int.tdiv IntKind.wrap
theorem AX8 (code : List Int) (hc : ∀ x ∈ code, (Lit.int .u8 x).wf = true) (more : List Int) (hm : ∀ x ∈ more, (Lit.int .u8 x).wf = true) : FSpec Tryz.prog 6 [bytesI code, bytesI more] (AV.bool true) := by
 refine D9 Tryz.func6 rfl Tryz.ntmps6 rfl ?_
 refine A3 (A2 ?_)
 refine A1 rfl rfl rfl (B8 rfl F0) ?_
 refine A5 (A3 (A3 (A2 ?_)))
 refine A4 rfl rfl rfl rfl rfl ?_
 refine A4 rfl rfl rfl rfl rfl ?_
 refine A1 rfl rfl rfl (D6 rfl Tryz.call8 rfl (big_spec _ _) (A7 (A0 rfl) (A7 (A0 rfl) C0))) ?_
 refine A5 ?_
 refine C8 (A0 rfl) ?_ ?_
 ·intro h55
  refine A3 (A2 ?_)
  refine A1 rfl rfl rfl (B8 rfl F0) ?_
  refine A5 ?_
  refine C6 ?_
  exact H1 rfl (C3 rfl (by first | rfl | exact congrArg AV.bool (by simp)))
 ·intro h55
  have hb0 : ByteL code := Aa2 hc
  have hb1 : ByteL more := Aa2 hm
  refine D1 (A3 (A2 ?_))
  refine A4 rfl rfl rfl rfl rfl ?_
  refine G0 [] rfl rfl rfl rfl Tryz.call45 rfl (AI0 code hb0) (A7 (A0 rfl) C0) rfl ?_
  intro x58 ok58
  obtain ⟨⟨l, s⟩, hx58⟩ : ∃ z, x58 = z := ⟨_, rfl⟩
  subst hx58
  dsimp only
  refine A4 rfl rfl rfl rfl rfl ?_
  refine A1 rfl rfl rfl (D0 rfl (A0 rfl) rfl) ?_
  refine A1 rfl rfl rfl (D0 rfl (A0 rfl) rfl) ?_
  refine F3 rfl rfl rfl rfl Tryz.zeroValue82 rfl ?_
  intro b6
  refine B2 rfl rfl rfl rfl rfl ?_
  refine D5 0 rfl rfl rfl (A0 rfl) (A0 rfl) (E8 _) rfl F8 rfl ?_
  refine A5 (A3 (A2 ?_))
  refine A4 rfl rfl rfl rfl rfl ?_
  refine A1 rfl rfl rfl (E4 0 rfl (A0 rfl) rfl I5 F8 rfl) ?_
  refine A1 rfl rfl rfl (D6 rfl Tryz.call46 rfl (AQ1 l s) (A7 (A0 rfl) (A7 (A0 rfl) C0))) ?_
  refine A4 rfl rfl rfl rfl rfl ?_
  refine A1 rfl rfl rfl (D0 rfl (A0 rfl) rfl) ?_
  refine A1 rfl rfl rfl (D0 rfl (A0 rfl) rfl) ?_
  refine B2 rfl rfl rfl rfl rfl ?_
  refine B2 rfl rfl rfl rfl rfl ?_
  refine A5 (A3 (A2 ?_))
  refine A4 rfl rfl rfl rfl rfl ?_
  refine A1 rfl rfl rfl (E4 0 rfl (A0 rfl) rfl I5 F8 rfl) ?_
  refine A1 rfl rfl rfl (D6 rfl Tryz.call47 rfl (AN6 l s) (A7 (A0 rfl) (A7 (A0 rfl) C0))) ?_
  refine A4 rfl rfl rfl rfl rfl ?_
  refine A1 rfl rfl rfl (D0 rfl (A0 rfl) rfl) ?_
  refine A1 rfl rfl rfl (D0 rfl (A0 rfl) rfl) ?_
  refine B2 rfl rfl rfl rfl rfl ?_
  refine B2 rfl rfl rfl rfl rfl ?_
  refine A5 (A3 (A3 (A2 ?_)))
  refine A4 rfl rfl rfl rfl rfl ?_
  refine A4 rfl rfl rfl rfl rfl ?_
  refine A1 rfl rfl rfl (w_bneq rfl M2 (A0 rfl) (A0 rfl)) ?_
  refine A4 rfl rfl rfl rfl rfl ?_
  refine A9 rfl rfl (C9 rfl rfl rfl) (fun hc => C4 rfl (A0 rfl)) ?_
  refine A9 rfl rfl (C9 rfl rfl rfl) (fun hc => C4 rfl (A0 rfl)) ?_
  refine A9 rfl rfl (C9 rfl rfl rfl) (fun hc => AI2 rfl (A8 rfl hc) (A8 rfl hc)) ?_
  refine A1 rfl rfl rfl (N4 rfl (A0 rfl) (E3 rfl)) ?_
  refine A5 ?_
  refine C8 (A0 rfl) ?_ ?_
  ·intro h80
   exfalso; simp at h80
  ·intro h80
   refine D1 (A3 (A3 (A2 ?_)))
   refine A4 rfl rfl rfl rfl rfl ?_
   refine A5 ?_
   refine C8 (A0 rfl) ?_ ?_
   ·intro h81
    obtain ⟨t, hd, hd1, hd2, hd3⟩ := dec_ok h81
    rw [hd]
    refine A3 (A3 (A2 ?_))
    refine A4 rfl rfl rfl rfl rfl ?_
    refine A1 rfl rfl rfl (B6 1 rfl J5 rfl B9 (A0 rfl) rfl) ?_
    refine A1 rfl rfl rfl (B4 0 rfl (A0 rfl) rfl C7 rfl) ?_
    refine A1 rfl rfl rfl (S0 rfl (A0 rfl) (A0 rfl)) ?_
    refine A5 ?_
    refine C8 (A0 rfl) ?_ ?_
    ·intro h85
     have k85 := of_decide_eq_true h85; try simp only [A6] at k85
     exfalso; have h9 := of_decide_eq_true h85; dsimp only at h9; omega
    ·intro h85
     have k85 := of_decide_eq_false h85; try simp only [A6] at k85
     refine D1 (A3 (A3 (A2 ?_)))
     refine A4 rfl rfl rfl rfl rfl ?_
     refine A1 rfl rfl rfl (H3 rfl I0 (A0 rfl)) ?_
     refine A1 rfl rfl rfl (C4 rfl B5) ?_
     refine A5 (D7 ?_)
     refine AWP.le (K1 [0] rfl) ?_
     refine J0 [(0, _), (1, _), (6, _), (7, _), (86, _), (87, _)] _ (fun (i : Nat) => i ≤ l.length) (fun (i : Nat) => [.box b6 82 s.cs]) (fun (i : Nat) => [(88, AV.int i)]) (fun (i : Nat) => l.length - i) (0) ?_ (S7 (by rfl) ⟨rfl, rfl, rfl, rfl, rfl, rfl, rfl, trivial⟩) ?_
     ·exact Nat.zero_le _
     intro i hinv
     refine A3 (A2 ?_)
     refine A1 rfl rfl rfl (J8 rfl (A0 rfl) (A0 rfl)) ?_
     refine A5 (A3 ?_)
     refine C8 (A0 rfl) ?_ ?_
     ·intro h89
      have k89 := of_decide_eq_true h89; try simp only [A6] at k89
      have hlt : i < l.length := by simpa using h89
      obtain ⟨x, hx⟩ := get_some hlt
      have hll : l.length ≤ 4 := dec_len h81
      refine D1 (A3 (D7 (A3 (A2 ?_))))
      refine A1 rfl rfl rfl (J4 rfl I0 B9 (A0 rfl) (A0 rfl) hx (by first | omega | (simp only [A6, B0, B7, C1, B3, szR] at *; omega))) ?_
      refine A1 rfl rfl rfl (L6 rfl (A0 rfl) C7 rfl) ?_
      refine B2 rfl rfl rfl rfl rfl ?_
      refine A5 (A3 (A2 ?_))
      refine A4 rfl rfl rfl rfl rfl ?_
      refine A4 rfl rfl rfl rfl rfl ?_
      refine A1 rfl rfl rfl (J8 rfl (A0 rfl) (A0 rfl)) ?_
      refine A5 ?_
      refine C8 (A0 rfl) ?_ ?_
      ·intro h94
       have k94 := of_decide_eq_true h94; try simp only [A6] at k94
       exfalso; have h9 := of_decide_eq_true h94; have h8 := hd2 x (G6 hx); dsimp only at h9; omega
      ·intro h94
       have k94 := of_decide_eq_false h94; try simp only [A6] at k94
       refine D1 (A2 ?_)
       refine A1 rfl rfl rfl (G5 rfl (A0 rfl) B5 (by first | omega | (simp only [A6, B0, B7, C1, B3, szR] at *; omega))) ?_
       refine A4 rfl rfl rfl rfl rfl ?_
       refine A5 ?_
       refine L2 i (i + 1) ?_ ?_ (Le.trans (K1 [0] rfl) (S7 (by rfl) ⟨rfl, rfl, rfl, rfl, rfl, rfl, rfl, trivial⟩))
       ·exact (by omega)
       ·omega
     ·intro h89
      have k89 := of_decide_eq_false h89; try simp only [A6] at k89
      refine H4 ?_
      refine A3 (A2 ?_)
      refine A1 rfl rfl rfl (E4 0 rfl (A0 rfl) rfl I5 F8 rfl) ?_
      refine A4 rfl rfl rfl rfl rfl ?_
      refine A1 rfl rfl rfl (D6 rfl Tryz.call48 rfl (Ac3 s t) (A7 (A0 rfl) (A7 (A0 rfl) C0))) ?_
      refine A4 rfl rfl rfl rfl rfl ?_
      refine A1 rfl rfl rfl (D0 rfl (A0 rfl) rfl) ?_
      refine A1 rfl rfl rfl (D0 rfl (A0 rfl) rfl) ?_
      refine B2 rfl rfl rfl rfl rfl ?_
      refine B2 rfl rfl rfl rfl rfl ?_
      refine A5 (A3 (A2 ?_))
      refine A4 rfl rfl rfl rfl rfl ?_
      refine A1 rfl rfl rfl (I4 rfl (A0 rfl)) ?_
      refine A4 rfl rfl rfl rfl rfl ?_
      refine A9 rfl rfl (C9 rfl rfl rfl) (fun hc => C4 rfl (A0 rfl)) ?_
      refine A1 rfl rfl rfl (N4 rfl (A0 rfl) (E3 rfl)) ?_
      refine A5 ?_
      refine C8 (A0 rfl) ?_ ?_
      ·intro h106
       exfalso; rw [hd3] at h106; simp at h106
      ·intro h106
       refine D1 (A3 (A2 ?_))
       refine A4 rfl rfl rfl rfl rfl ?_
       refine G0 [] rfl rfl rfl rfl Tryz.call49 rfl (g7 code hb0) (A7 (A0 rfl) C0) rfl ?_
       intro x109 ok109
       obtain ⟨⟨c, now⟩, hx109⟩ : ∃ z, x109 = z := ⟨_, rfl⟩
       subst hx109
       have hnow := ok109
       dsimp only at hnow ⊢
       refine A4 rfl rfl rfl rfl rfl ?_
       refine A1 rfl rfl rfl (D0 rfl (A0 rfl) rfl) ?_
       refine A1 rfl rfl rfl (D0 rfl (A0 rfl) rfl) ?_
       refine F3 rfl rfl rfl rfl Tryz.zeroValue88 rfl ?_
       intro b15
       refine D5 0 rfl rfl rfl (A0 rfl) (A0 rfl) (E8 _) rfl H6 rfl ?_
       refine B2 rfl rfl rfl rfl rfl ?_
       refine A5 (A3 (A2 ?_))
       refine A4 rfl rfl rfl rfl rfl ?_
       refine G0 [] rfl rfl rfl rfl Tryz.call49 rfl (g7 more hb1) (A7 (A0 rfl) C0) rfl ?_
       intro x114 ok114
       obtain ⟨⟨c2, now2⟩, hx114⟩ : ∃ z, x114 = z := ⟨_, rfl⟩
       subst hx114
       dsimp only
       refine A4 rfl rfl rfl rfl rfl ?_
       refine A1 rfl rfl rfl (D0 rfl (A0 rfl) rfl) ?_
       refine A1 rfl rfl rfl (D0 rfl (A0 rfl) rfl) ?_
       refine F3 rfl rfl rfl rfl Tryz.zeroValue88 rfl ?_
       intro b17
       refine D5 0 rfl rfl rfl (A0 rfl) (A0 rfl) (E8 _) rfl H6 rfl ?_
       refine B2 rfl rfl rfl rfl rfl ?_
       refine A5 (A3 (A2 ?_))
       refine A4 rfl rfl rfl rfl rfl ?_
       refine G0 [] rfl rfl rfl rfl Tryz.call50 rfl (U8 more hb1) (A7 (A0 rfl) C0) rfl ?_
       intro x119 ok119
       obtain ⟨⟨S, y⟩, hx119⟩ : ∃ z, x119 = z := ⟨_, rfl⟩
       subst hx119
       have hSS : S.size ≤ 33045 := ok119
       dsimp only
       refine A4 rfl rfl rfl rfl rfl ?_
       refine A1 rfl rfl rfl (D0 rfl (A0 rfl) rfl) ?_
       refine A1 rfl rfl rfl (D0 rfl (A0 rfl) rfl) ?_
       refine F3 rfl rfl rfl rfl Tryz.zeroValue30 rfl ?_
       intro b19
       refine F3 rfl rfl rfl rfl Tryz.zeroValue82 rfl ?_
       intro b20
       refine D5 1 rfl rfl rfl (A0 rfl) (A0 rfl) (E8 _) rfl D3 rfl ?_
       refine D5 0 rfl rfl rfl (A0 rfl) (A0 rfl) (E8 _) rfl F8 rfl ?_
       refine A5 (A3 (A2 ?_))
       refine A1 rfl rfl rfl (E4 3 rfl (A0 rfl) rfl L4 H6 rfl) ?_
       refine A4 rfl rfl rfl rfl rfl ?_
       refine A1 rfl rfl rfl (D6 rfl Tryz.call51 rfl (o5 c now) (A7 (A0 rfl) (A7 (A0 rfl) C0))) ?_
       refine A4 rfl rfl rfl rfl rfl ?_
       refine A1 rfl rfl rfl (D0 rfl (A0 rfl) rfl) ?_
       refine A1 rfl rfl rfl (D0 rfl (A0 rfl) rfl) ?_
       refine F3 rfl rfl rfl rfl Tryz.zeroValue82 rfl ?_
       intro b21
       refine D5 0 rfl rfl rfl (A0 rfl) (A0 rfl) (E8 _) rfl F8 rfl ?_
       refine B2 rfl rfl rfl rfl rfl ?_
       refine A5 (A3 (A2 ?_))
       refine A1 rfl rfl rfl (E4 3 rfl (A0 rfl) rfl L4 H6 rfl) ?_
       refine A4 rfl rfl rfl rfl rfl ?_
       refine A1 rfl rfl rfl (D6 rfl Tryz.call51 rfl (o5 c2 now) (A7 (A0 rfl) (A7 (A0 rfl) C0))) ?_
       refine A4 rfl rfl rfl rfl rfl ?_
       refine A1 rfl rfl rfl (D0 rfl (A0 rfl) rfl) ?_
       refine A1 rfl rfl rfl (D0 rfl (A0 rfl) rfl) ?_
       refine F3 rfl rfl rfl rfl Tryz.zeroValue82 rfl ?_
       intro b23
       refine D5 0 rfl rfl rfl (A0 rfl) (A0 rfl) (E8 _) rfl F8 rfl ?_
       refine B2 rfl rfl rfl rfl rfl ?_
       refine A5 (A3 (A3 (A2 ?_)))
       refine A4 rfl rfl rfl rfl rfl ?_
       refine A4 rfl rfl rfl rfl rfl ?_
       refine A9 rfl rfl (B1 rfl rfl rfl) (fun hc => C4 rfl (A0 rfl)) ?_
       refine A1 rfl rfl rfl (G1 rfl (A0 rfl) (E3 rfl)) ?_
       refine A4 rfl rfl rfl rfl rfl ?_
       refine A9 rfl rfl (B1 rfl rfl rfl) (fun hc => C4 rfl (A0 rfl)) ?_
       refine A9 rfl rfl (B1 rfl rfl rfl) (fun hc => J8 rfl (A8 rfl hc) B5) ?_
       refine A1 rfl rfl rfl (G1 rfl (A0 rfl) (E3 rfl)) ?_
       refine A5 ?_
       refine C8 (A0 rfl) ?_ ?_
       ·intro h141
        simp only [Bool.and_eq_true, decide_eq_true_eq] at h141
        obtain ⟨hs1, hcb, hn0, hn1⟩ := AI8 h141.1.1
        obtain ⟨hs2, hcb2, _, _⟩ := AI8 h141.1.2
        obtain ⟨u, hu1, hu2⟩ := AQ3 hcb hn0 h141.2
        rw [hs1, hs2]
        refine A3 (A2 ?_)
        refine A1 rfl rfl rfl (E4 1 rfl (A0 rfl) rfl I5 F8 rfl) ?_
        refine A1 rfl rfl rfl (D6 rfl Tryz.call52 rfl (AE2 (spanOf c now)) (A7 (A0 rfl) C0)) ?_
        refine A4 rfl rfl rfl rfl rfl ?_
        refine A1 rfl rfl rfl (D0 rfl (A0 rfl) rfl) ?_
        refine A1 rfl rfl rfl (D0 rfl (A0 rfl) rfl) ?_
        refine B2 rfl rfl rfl rfl rfl ?_
        refine B2 rfl rfl rfl rfl rfl ?_
        refine A5 (A3 (A2 ?_))
        refine A1 rfl rfl rfl (E4 3 rfl (A0 rfl) rfl F1 D3 rfl) ?_
        refine A1 rfl rfl rfl (E4 0 rfl (A0 rfl) rfl I5 F8 rfl) ?_
        refine A1 rfl rfl rfl (D6 rfl Tryz.call53 rfl (Y7 S (spanOf c2 now) (by omega)) (A7 (A0 rfl) (A7 (A0 rfl) C0))) ?_
        refine A4 rfl rfl rfl rfl rfl ?_
        refine A1 rfl rfl rfl (D0 rfl (A0 rfl) rfl) ?_
        refine A1 rfl rfl rfl (D0 rfl (A0 rfl) rfl) ?_
        refine B2 rfl rfl rfl rfl rfl ?_
        refine B2 rfl rfl rfl rfl rfl ?_
        refine A5 (A3 (A3 (A2 ?_)))
        refine A4 rfl rfl rfl rfl rfl ?_
        refine A4 rfl rfl rfl rfl rfl ?_
        refine A9 rfl rfl (B1 rfl rfl rfl) (fun hc => C4 rfl (A0 rfl)) ?_
        refine A1 rfl rfl rfl (G1 rfl (A0 rfl) (E3 rfl)) ?_
        refine A4 rfl rfl rfl rfl rfl ?_
        refine A9 rfl rfl (B1 rfl rfl rfl) (fun hc => C4 rfl (A0 rfl)) ?_
        refine A9 rfl rfl (B1 rfl rfl rfl) (fun hc => C4 rfl (A0 rfl)) ?_
        refine A9 rfl rfl (B1 rfl rfl rfl) (fun hc => J8 rfl (A8 rfl hc) (A8 rfl hc)) ?_
        refine A1 rfl rfl rfl (G1 rfl (A0 rfl) (E3 rfl)) ?_
        refine A5 ?_
        refine C8 (A0 rfl) ?_ ?_
        ·intro h161
         exfalso; simp only [Bool.and_eq_true, decide_eq_true_eq] at h161; exact AW2 h161.1.1 h161.1.2 (show now + c.Off + 5 ≤ now + c2.Off + 5 + 10 by omega) h161.2
        ·intro h161
         refine D1 (A3 (A2 ?_))
         refine A1 rfl rfl rfl (E4 5 rfl (A0 rfl) rfl L4 H6 rfl) ?_
         refine A4 rfl rfl rfl rfl rfl ?_
         refine A4 rfl rfl rfl rfl rfl ?_
         refine A1 rfl rfl rfl (G5 rfl B5 (A0 rfl) (by first | omega | (simp only [A6, B0, B7, C1, B3, szR] at *; omega))) ?_
         refine A1 rfl rfl rfl (D6 rfl Tryz.call54 rfl (Y6 c now (1 + now)) (A7 (A0 rfl) (A7 (A0 rfl) (A7 (A0 rfl) C0)))) ?_
         refine A4 rfl rfl rfl rfl rfl ?_
         refine A1 rfl rfl rfl (D0 rfl (A0 rfl) rfl) ?_
         refine A1 rfl rfl rfl (D0 rfl (A0 rfl) rfl) ?_
         refine B2 rfl rfl rfl rfl rfl ?_
         refine B2 rfl rfl rfl rfl rfl ?_
         refine A5 (A3 (A2 ?_))
         refine A4 rfl rfl rfl rfl rfl ?_
         refine A4 rfl rfl rfl rfl rfl ?_
         refine A1 rfl rfl rfl (G5 rfl B5 (A0 rfl) (by first | omega | (simp only [A6, B0, B7, C1, B3, szR] at *; omega))) ?_
         refine A4 rfl rfl rfl rfl rfl ?_
         refine A1 rfl rfl rfl (D6 rfl Tryz.call55 rfl (AB0 now (1 + now) (afterR c now (1 + now)).1) (A7 (A0 rfl) (A7 (A0 rfl) (A7 (A0 rfl) C0)))) ?_
         refine A4 rfl rfl rfl rfl rfl ?_
         refine A1 rfl rfl rfl (D0 rfl (A0 rfl) rfl) ?_
         refine A1 rfl rfl rfl (D0 rfl (A0 rfl) rfl) ?_
         refine B2 rfl rfl rfl rfl rfl ?_
         refine B2 rfl rfl rfl rfl rfl ?_
         refine A5 (A3 (A2 ?_))
         refine A4 rfl rfl rfl rfl rfl ?_
         refine A1 rfl rfl rfl (I4 rfl (A0 rfl)) ?_
         refine A4 rfl rfl rfl rfl rfl ?_
         refine A9 rfl rfl (C9 rfl rfl rfl) (fun hc => C4 rfl (A0 rfl)) ?_
         refine A9 rfl rfl (C9 rfl rfl rfl) (fun hc => I4 rfl (A8 rfl hc)) ?_
         refine A1 rfl rfl rfl (N4 rfl (A0 rfl) (E3 rfl)) ?_
         refine A4 rfl rfl rfl rfl rfl ?_
         refine A9 rfl rfl (C9 rfl rfl rfl) (fun hc => C4 rfl (A0 rfl)) ?_
         refine A9 rfl rfl (C9 rfl rfl rfl) (fun hc => I4 rfl (A8 rfl hc)) ?_
         refine A1 rfl rfl rfl (N4 rfl (A0 rfl) (E3 rfl)) ?_
         refine A5 ?_
         refine C8 (A0 rfl) ?_ ?_
         ·intro h187
          exfalso; rw [hu1] at h187; dsimp only at h187; rw [hu2] at h187; simp at h187
         ·intro h187
          refine D1 (A3 (A2 ?_))
          refine A4 rfl rfl rfl rfl rfl ?_
          refine G0 [] rfl rfl rfl rfl Tryz.call56 rfl (a6 more hb1) (A7 (A0 rfl) C0) rfl ?_
          intro x190 ok190
          obtain ⟨⟨e, f, g⟩, hx190⟩ : ∃ z, x190 = z := ⟨_, rfl⟩
          subst hx190
          dsimp only
          refine A4 rfl rfl rfl rfl rfl ?_
          refine A1 rfl rfl rfl (D0 rfl (A0 rfl) rfl) ?_
          refine A1 rfl rfl rfl (D0 rfl (A0 rfl) rfl) ?_
          refine A1 rfl rfl rfl (D0 rfl (A0 rfl) rfl) ?_
          refine F3 rfl rfl rfl rfl Tryz.zeroValue88 rfl ?_
          intro b33
          refine D5 0 rfl rfl rfl (A0 rfl) (A0 rfl) (E8 _) rfl H6 rfl ?_
          refine B2 rfl rfl rfl rfl rfl ?_
          refine B2 rfl rfl rfl rfl rfl ?_
          refine A5 (A3 (A2 ?_))
          refine A1 rfl rfl rfl (E4 0 rfl (A0 rfl) rfl L4 H6 rfl) ?_
          refine A4 rfl rfl rfl rfl rfl ?_
          refine A4 rfl rfl rfl rfl rfl ?_
          refine A1 rfl rfl rfl (D6 rfl Tryz.call54 rfl (Y6 e f g) (A7 (A0 rfl) (A7 (A0 rfl) (A7 (A0 rfl) C0)))) ?_
          refine A4 rfl rfl rfl rfl rfl ?_
          refine A1 rfl rfl rfl (D0 rfl (A0 rfl) rfl) ?_
          refine A1 rfl rfl rfl (D0 rfl (A0 rfl) rfl) ?_
          refine B2 rfl rfl rfl rfl rfl ?_
          refine B2 rfl rfl rfl rfl rfl ?_
          refine A5 (A3 (A2 ?_))
          refine A1 rfl rfl rfl (E4 0 rfl (A0 rfl) rfl L4 H6 rfl) ?_
          refine A4 rfl rfl rfl rfl rfl ?_
          refine A4 rfl rfl rfl rfl rfl ?_
          refine A1 rfl rfl rfl (D6 rfl Tryz.call57 rfl (d5 e f g) (A7 (A0 rfl) (A7 (A0 rfl) (A7 (A0 rfl) C0)))) ?_
          refine A4 rfl rfl rfl rfl rfl ?_
          refine A1 rfl rfl rfl (D0 rfl (A0 rfl) rfl) ?_
          refine A1 rfl rfl rfl (D0 rfl (A0 rfl) rfl) ?_
          refine B2 rfl rfl rfl rfl rfl ?_
          refine B2 rfl rfl rfl rfl rfl ?_
          refine A5 (A3 (A2 ?_))
          refine A4 rfl rfl rfl rfl rfl ?_
          refine G0 [] rfl rfl rfl rfl Tryz.call50 rfl (U8 more hb1) (A7 (A0 rfl) C0) rfl ?_
          intro x210 ok210
          obtain ⟨⟨S2, y2⟩, hx210⟩ : ∃ z, x210 = z := ⟨_, rfl⟩
          subst hx210
          have hS2 : S2.size ≤ 33045 := ok210
          dsimp only
          refine A4 rfl rfl rfl rfl rfl ?_
          refine A1 rfl rfl rfl (D0 rfl (A0 rfl) rfl) ?_
          refine A1 rfl rfl rfl (D0 rfl (A0 rfl) rfl) ?_
          refine F3 rfl rfl rfl rfl Tryz.zeroValue30 rfl ?_
          intro b40
          refine F3 rfl rfl rfl rfl Tryz.zeroValue82 rfl ?_
          intro b41
          refine D5 1 rfl rfl rfl (A0 rfl) (A0 rfl) (E8 _) rfl D3 rfl ?_
          refine D5 0 rfl rfl rfl (A0 rfl) (A0 rfl) (E8 _) rfl F8 rfl ?_
          refine A5 (A3 (A2 ?_))
          refine A1 rfl rfl rfl (E4 1 rfl (A0 rfl) rfl F1 D3 rfl) ?_
          refine A1 rfl rfl rfl (E4 0 rfl (A0 rfl) rfl I5 F8 rfl) ?_
          refine A1 rfl rfl rfl (D6 rfl Tryz.call53 rfl (Y7 S2 y2 (by omega)) (A7 (A0 rfl) (A7 (A0 rfl) C0))) ?_
          refine A4 rfl rfl rfl rfl rfl ?_
          refine A1 rfl rfl rfl (D0 rfl (A0 rfl) rfl) ?_
          refine A1 rfl rfl rfl (D0 rfl (A0 rfl) rfl) ?_
          refine B2 rfl rfl rfl rfl rfl ?_
          refine B2 rfl rfl rfl rfl rfl ?_
          refine A5 (A3 (A2 ?_))
          refine A1 rfl rfl rfl (E4 1 rfl (A0 rfl) rfl F1 D3 rfl) ?_
          refine A1 rfl rfl rfl (E4 0 rfl (A0 rfl) rfl I5 F8 rfl) ?_
          refine A1 rfl rfl rfl (D6 rfl Tryz.call58 rfl (d6 S2 y2 (by omega)) (A7 (A0 rfl) (A7 (A0 rfl) C0))) ?_
          refine A4 rfl rfl rfl rfl rfl ?_
          refine A1 rfl rfl rfl (D0 rfl (A0 rfl) rfl) ?_
          refine A1 rfl rfl rfl (D0 rfl (A0 rfl) rfl) ?_
          refine B2 rfl rfl rfl rfl rfl ?_
          refine B2 rfl rfl rfl rfl rfl ?_
          refine A5 (A3 (A2 ?_))
          refine A4 rfl rfl rfl rfl rfl ?_
          refine G0 [] rfl rfl rfl rfl Tryz.call59 rfl (d7 more hb1) (A7 (A0 rfl) C0) rfl ?_
          intro x227 ok227
          obtain ⟨⟨S3, k3, t3⟩, hx227⟩ : ∃ z, x227 = z := ⟨_, rfl⟩
          subst hx227
          obtain ⟨hS3, hk3⟩ := ok227
          dsimp only at hS3 hk3 ⊢
          refine A4 rfl rfl rfl rfl rfl ?_
          refine A1 rfl rfl rfl (D0 rfl (A0 rfl) rfl) ?_
          refine A1 rfl rfl rfl (D0 rfl (A0 rfl) rfl) ?_
          refine A1 rfl rfl rfl (D0 rfl (A0 rfl) rfl) ?_
          refine F3 rfl rfl rfl rfl Tryz.zeroValue30 rfl ?_
          intro b46
          refine D5 0 rfl rfl rfl (A0 rfl) (A0 rfl) (E8 _) rfl D3 rfl ?_
          refine B2 rfl rfl rfl rfl rfl ?_
          refine B2 rfl rfl rfl rfl rfl ?_
          refine A5 (A3 (A2 ?_))
          refine A1 rfl rfl rfl (E4 0 rfl (A0 rfl) rfl F1 D3 rfl) ?_
          refine A4 rfl rfl rfl rfl rfl ?_
          refine A4 rfl rfl rfl rfl rfl ?_
          refine A1 rfl rfl rfl (D6 rfl Tryz.call60 rfl (m4 S3 k3 t3 (by omega) (by omega)) (A7 (A0 rfl) (A7 (A0 rfl) (A7 (A0 rfl) C0)))) ?_
          refine A4 rfl rfl rfl rfl rfl ?_
          refine A1 rfl rfl rfl (D0 rfl (A0 rfl) rfl) ?_
          refine A1 rfl rfl rfl (D0 rfl (A0 rfl) rfl) ?_
          refine B2 rfl rfl rfl rfl rfl ?_
          refine B2 rfl rfl rfl rfl rfl ?_
          refine A5 (A3 (A2 ?_))
          refine A1 rfl rfl rfl (E4 0 rfl (A0 rfl) rfl F1 D3 rfl) ?_
          refine A4 rfl rfl rfl rfl rfl ?_
          refine A4 rfl rfl rfl rfl rfl ?_
          refine A1 rfl rfl rfl (D6 rfl Tryz.call61 rfl (i8 S3 k3 t3 (by omega) (by omega)) (A7 (A0 rfl) (A7 (A0 rfl) (A7 (A0 rfl) C0)))) ?_
          refine A4 rfl rfl rfl rfl rfl ?_
          refine A1 rfl rfl rfl (D0 rfl (A0 rfl) rfl) ?_
          refine A1 rfl rfl rfl (D0 rfl (A0 rfl) rfl) ?_
          refine B2 rfl rfl rfl rfl rfl ?_
          refine B2 rfl rfl rfl rfl rfl ?_
          refine A5 (A3 (A2 ?_))
          refine A4 rfl rfl rfl rfl rfl ?_
          refine A4 rfl rfl rfl rfl rfl ?_
          refine A1 rfl rfl rfl (X8 rfl M2 (A0 rfl) (A0 rfl)) ?_
          refine A4 rfl rfl rfl rfl rfl ?_
          refine A9 rfl rfl (B1 rfl rfl rfl) (fun hc => C4 rfl (A0 rfl)) ?_
          refine A9 rfl rfl (B1 rfl rfl rfl) (fun hc => C4 rfl (A0 rfl)) ?_
          refine A9 rfl rfl (B1 rfl rfl rfl) (fun hc => M5 rfl (A8 rfl hc) (A8 rfl hc)) ?_
          refine A1 rfl rfl rfl (G1 rfl (A0 rfl) (E3 rfl)) ?_
          refine A4 rfl rfl rfl rfl rfl ?_
          refine A9 rfl rfl (B1 rfl rfl rfl) (fun hc => C4 rfl (A0 rfl)) ?_
          refine A9 rfl rfl (B1 rfl rfl rfl) (fun hc => C4 rfl (A0 rfl)) ?_
          refine A9 rfl rfl (B1 rfl rfl rfl) (fun hc => X8 rfl M2 (A8 rfl hc) (A8 rfl hc)) ?_
          refine A1 rfl rfl rfl (G1 rfl (A0 rfl) (E3 rfl)) ?_
          refine A4 rfl rfl rfl rfl rfl ?_
          refine A9 rfl rfl (B1 rfl rfl rfl) (fun hc => C4 rfl (A0 rfl)) ?_
          refine A9 rfl rfl (B1 rfl rfl rfl) (fun hc => C4 rfl (A0 rfl)) ?_
          refine A9 rfl rfl (B1 rfl rfl rfl) (fun hc => M5 rfl (A8 rfl hc) (A8 rfl hc)) ?_
          refine A1 rfl rfl rfl (G1 rfl (A0 rfl) (E3 rfl)) ?_
          refine A4 rfl rfl rfl rfl rfl ?_
          refine A9 rfl rfl (B1 rfl rfl rfl) (fun hc => C4 rfl (A0 rfl)) ?_
          refine A9 rfl rfl (B1 rfl rfl rfl) (fun hc => C4 rfl (A0 rfl)) ?_
          refine A9 rfl rfl (B1 rfl rfl rfl) (fun hc => X8 rfl M2 (A8 rfl hc) (A8 rfl hc)) ?_
          refine A1 rfl rfl rfl (G1 rfl (A0 rfl) (E3 rfl)) ?_
          refine A4 rfl rfl rfl rfl rfl ?_
          refine A9 rfl rfl (B1 rfl rfl rfl) (fun hc => C4 rfl (A0 rfl)) ?_
          refine A9 rfl rfl (B1 rfl rfl rfl) (fun hc => C4 rfl (A0 rfl)) ?_
          refine A9 rfl rfl (B1 rfl rfl rfl) (fun hc => X8 rfl M2 (A8 rfl hc) (A8 rfl hc)) ?_
          refine A1 rfl rfl rfl (G1 rfl (A0 rfl) (E3 rfl)) ?_
          refine B2 rfl rfl rfl rfl rfl ?_
          refine A5 ?_
          refine C6 ?_
          exact H1 rfl (C3 rfl (by first | rfl | exact congrArg AV.bool (by simp)))
       ·intro h141
        refine D1 (A3 (A2 ?_))
        refine A4 rfl rfl rfl rfl rfl ?_
        refine G0 [] rfl rfl rfl rfl Tryz.call56 rfl (a6 more hb1) (A7 (A0 rfl) C0) rfl ?_
        intro x190 ok190
        obtain ⟨⟨e, f, g⟩, hx190⟩ : ∃ z, x190 = z := ⟨_, rfl⟩
        subst hx190
        dsimp only
        refine A4 rfl rfl rfl rfl rfl ?_
        refine A1 rfl rfl rfl (D0 rfl (A0 rfl) rfl) ?_
        refine A1 rfl rfl rfl (D0 rfl (A0 rfl) rfl) ?_
        refine A1 rfl rfl rfl (D0 rfl (A0 rfl) rfl) ?_
        refine F3 rfl rfl rfl rfl Tryz.zeroValue88 rfl ?_
        intro b33
        refine D5 0 rfl rfl rfl (A0 rfl) (A0 rfl) (E8 _) rfl H6 rfl ?_
        refine B2 rfl rfl rfl rfl rfl ?_
        refine B2 rfl rfl rfl rfl rfl ?_
        refine A5 (A3 (A2 ?_))
        refine A1 rfl rfl rfl (E4 0 rfl (A0 rfl) rfl L4 H6 rfl) ?_
        refine A4 rfl rfl rfl rfl rfl ?_
        refine A4 rfl rfl rfl rfl rfl ?_
        refine A1 rfl rfl rfl (D6 rfl Tryz.call54 rfl (Y6 e f g) (A7 (A0 rfl) (A7 (A0 rfl) (A7 (A0 rfl) C0)))) ?_
        refine A4 rfl rfl rfl rfl rfl ?_
        refine A1 rfl rfl rfl (D0 rfl (A0 rfl) rfl) ?_
        refine A1 rfl rfl rfl (D0 rfl (A0 rfl) rfl) ?_
        refine B2 rfl rfl rfl rfl rfl ?_
        refine B2 rfl rfl rfl rfl rfl ?_
        refine A5 (A3 (A2 ?_))
        refine A1 rfl rfl rfl (E4 0 rfl (A0 rfl) rfl L4 H6 rfl) ?_
        refine A4 rfl rfl rfl rfl rfl ?_
        refine A4 rfl rfl rfl rfl rfl ?_
        refine A1 rfl rfl rfl (D6 rfl Tryz.call57 rfl (d5 e f g) (A7 (A0 rfl) (A7 (A0 rfl) (A7 (A0 rfl) C0)))) ?_
        refine A4 rfl rfl rfl rfl rfl ?_
        refine A1 rfl rfl rfl (D0 rfl (A0 rfl) rfl) ?_
        refine A1 rfl rfl rfl (D0 rfl (A0 rfl) rfl) ?_
        refine B2 rfl rfl rfl rfl rfl ?_
        refine B2 rfl rfl rfl rfl rfl ?_
        refine A5 (A3 (A2 ?_))
        refine A4 rfl rfl rfl rfl rfl ?_
        refine G0 [] rfl rfl rfl rfl Tryz.call50 rfl (U8 more hb1) (A7 (A0 rfl) C0) rfl ?_
        intro x210 ok210
        obtain ⟨⟨S2, y2⟩, hx210⟩ : ∃ z, x210 = z := ⟨_, rfl⟩
        subst hx210
        have hS2 : S2.size ≤ 33045 := ok210
        dsimp only
        refine A4 rfl rfl rfl rfl rfl ?_
        refine A1 rfl rfl rfl (D0 rfl (A0 rfl) rfl) ?_
        refine A1 rfl rfl rfl (D0 rfl (A0 rfl) rfl) ?_
        refine F3 rfl rfl rfl rfl Tryz.zeroValue30 rfl ?_
        intro b40
        refine F3 rfl rfl rfl rfl Tryz.zeroValue82 rfl ?_
        intro b41
        refine D5 1 rfl rfl rfl (A0 rfl) (A0 rfl) (E8 _) rfl D3 rfl ?_
        refine D5 0 rfl rfl rfl (A0 rfl) (A0 rfl) (E8 _) rfl F8 rfl ?_
        refine A5 (A3 (A2 ?_))
        refine A1 rfl rfl rfl (E4 1 rfl (A0 rfl) rfl F1 D3 rfl) ?_
        refine A1 rfl rfl rfl (E4 0 rfl (A0 rfl) rfl I5 F8 rfl) ?_
        refine A1 rfl rfl rfl (D6 rfl Tryz.call53 rfl (Y7 S2 y2 (by omega)) (A7 (A0 rfl) (A7 (A0 rfl) C0))) ?_
        refine A4 rfl rfl rfl rfl rfl ?_
        refine A1 rfl rfl rfl (D0 rfl (A0 rfl) rfl) ?_
        refine A1 rfl rfl rfl (D0 rfl (A0 rfl) rfl) ?_
        refine B2 rfl rfl rfl rfl rfl ?_
        refine B2 rfl rfl rfl rfl rfl ?_
        refine A5 (A3 (A2 ?_))
        refine A1 rfl rfl rfl (E4 1 rfl (A0 rfl) rfl F1 D3 rfl) ?_
        refine A1 rfl rfl rfl (E4 0 rfl (A0 rfl) rfl I5 F8 rfl) ?_
        refine A1 rfl rfl rfl (D6 rfl Tryz.call58 rfl (d6 S2 y2 (by omega)) (A7 (A0 rfl) (A7 (A0 rfl) C0))) ?_
        refine A4 rfl rfl rfl rfl rfl ?_
        refine A1 rfl rfl rfl (D0 rfl (A0 rfl) rfl) ?_
        refine A1 rfl rfl rfl (D0 rfl (A0 rfl) rfl) ?_
        refine B2 rfl rfl rfl rfl rfl ?_
        refine B2 rfl rfl rfl rfl rfl ?_
        refine A5 (A3 (A2 ?_))
        refine A4 rfl rfl rfl rfl rfl ?_
        refine G0 [] rfl rfl rfl rfl Tryz.call59 rfl (d7 more hb1) (A7 (A0 rfl) C0) rfl ?_
        intro x227 ok227
        obtain ⟨⟨S3, k3, t3⟩, hx227⟩ : ∃ z, x227 = z := ⟨_, rfl⟩
        subst hx227
        obtain ⟨hS3, hk3⟩ := ok227
        dsimp only at hS3 hk3 ⊢
        refine A4 rfl rfl rfl rfl rfl ?_
        refine A1 rfl rfl rfl (D0 rfl (A0 rfl) rfl) ?_
        refine A1 rfl rfl rfl (D0 rfl (A0 rfl) rfl) ?_
        refine A1 rfl rfl rfl (D0 rfl (A0 rfl) rfl) ?_
        refine F3 rfl rfl rfl rfl Tryz.zeroValue30 rfl ?_
        intro b46
        refine D5 0 rfl rfl rfl (A0 rfl) (A0 rfl) (E8 _) rfl D3 rfl ?_
        refine B2 rfl rfl rfl rfl rfl ?_
        refine B2 rfl rfl rfl rfl rfl ?_
        refine A5 (A3 (A2 ?_))
        refine A1 rfl rfl rfl (E4 0 rfl (A0 rfl) rfl F1 D3 rfl) ?_
        refine A4 rfl rfl rfl rfl rfl ?_
        refine A4 rfl rfl rfl rfl rfl ?_
        refine A1 rfl rfl rfl (D6 rfl Tryz.call60 rfl (m4 S3 k3 t3 (by omega) (by omega)) (A7 (A0 rfl) (A7 (A0 rfl) (A7 (A0 rfl) C0)))) ?_
        refine A4 rfl rfl rfl rfl rfl ?_
        refine A1 rfl rfl rfl (D0 rfl (A0 rfl) rfl) ?_
        refine A1 rfl rfl rfl (D0 rfl (A0 rfl) rfl) ?_
        refine B2 rfl rfl rfl rfl rfl ?_
        refine B2 rfl rfl rfl rfl rfl ?_
        refine A5 (A3 (A2 ?_))
        refine A1 rfl rfl rfl (E4 0 rfl (A0 rfl) rfl F1 D3 rfl) ?_
        refine A4 rfl rfl rfl rfl rfl ?_
        refine A4 rfl rfl rfl rfl rfl ?_
        refine A1 rfl rfl rfl (D6 rfl Tryz.call61 rfl (i8 S3 k3 t3 (by omega) (by omega)) (A7 (A0 rfl) (A7 (A0 rfl) (A7 (A0 rfl) C0)))) ?_
        refine A4 rfl rfl rfl rfl rfl ?_
        refine A1 rfl rfl rfl (D0 rfl (A0 rfl) rfl) ?_
        refine A1 rfl rfl rfl (D0 rfl (A0 rfl) rfl) ?_
        refine B2 rfl rfl rfl rfl rfl ?_
        refine B2 rfl rfl rfl rfl rfl ?_
        refine A5 (A3 (A2 ?_))
        refine A4 rfl rfl rfl rfl rfl ?_
        refine A4 rfl rfl rfl rfl rfl ?_
        refine A1 rfl rfl rfl (X8 rfl M2 (A0 rfl) (A0 rfl)) ?_
        refine A4 rfl rfl rfl rfl rfl ?_
        refine A9 rfl rfl (B1 rfl rfl rfl) (fun hc => C4 rfl (A0 rfl)) ?_
        refine A9 rfl rfl (B1 rfl rfl rfl) (fun hc => C4 rfl (A0 rfl)) ?_
        refine A9 rfl rfl (B1 rfl rfl rfl) (fun hc => M5 rfl (A8 rfl hc) (A8 rfl hc)) ?_
        refine A1 rfl rfl rfl (G1 rfl (A0 rfl) (E3 rfl)) ?_
        refine A4 rfl rfl rfl rfl rfl ?_
        refine A9 rfl rfl (B1 rfl rfl rfl) (fun hc => C4 rfl (A0 rfl)) ?_
        refine A9 rfl rfl (B1 rfl rfl rfl) (fun hc => C4 rfl (A0 rfl)) ?_
        refine A9 rfl rfl (B1 rfl rfl rfl) (fun hc => X8 rfl M2 (A8 rfl hc) (A8 rfl hc)) ?_
        refine A1 rfl rfl rfl (G1 rfl (A0 rfl) (E3 rfl)) ?_
        refine A4 rfl rfl rfl rfl rfl ?_
        refine A9 rfl rfl (B1 rfl rfl rfl) (fun hc => C4 rfl (A0 rfl)) ?_
        refine A9 rfl rfl (B1 rfl rfl rfl) (fun hc => C4 rfl (A0 rfl)) ?_
        refine A9 rfl rfl (B1 rfl rfl rfl) (fun hc => M5 rfl (A8 rfl hc) (A8 rfl hc)) ?_
        refine A1 rfl rfl rfl (G1 rfl (A0 rfl) (E3 rfl)) ?_
        refine A4 rfl rfl rfl rfl rfl ?_
        refine A9 rfl rfl (B1 rfl rfl rfl) (fun hc => C4 rfl (A0 rfl)) ?_
        refine A9 rfl rfl (B1 rfl rfl rfl) (fun hc => C4 rfl (A0 rfl)) ?_
        refine A9 rfl rfl (B1 rfl rfl rfl) (fun hc => X8 rfl M2 (A8 rfl hc) (A8 rfl hc)) ?_
        refine A1 rfl rfl rfl (G1 rfl (A0 rfl) (E3 rfl)) ?_
        refine A4 rfl rfl rfl rfl rfl ?_
        refine A9 rfl rfl (B1 rfl rfl rfl) (fun hc => C4 rfl (A0 rfl)) ?_
        refine A9 rfl rfl (B1 rfl rfl rfl) (fun hc => C4 rfl (A0 rfl)) ?_
        refine A9 rfl rfl (B1 rfl rfl rfl) (fun hc => X8 rfl M2 (A8 rfl hc) (A8 rfl hc)) ?_
        refine A1 rfl rfl rfl (G1 rfl (A0 rfl) (E3 rfl)) ?_
        refine B2 rfl rfl rfl rfl rfl ?_
        refine A5 ?_
        refine C6 ?_
        exact H1 rfl (C3 rfl (by first | rfl | exact congrArg AV.bool (by simp)))
   ·intro h81
    refine D1 (A3 (A2 ?_))
    refine A4 rfl rfl rfl rfl rfl ?_
    refine G0 [] rfl rfl rfl rfl Tryz.call49 rfl (g7 code hb0) (A7 (A0 rfl) C0) rfl ?_
    intro x109 ok109
    obtain ⟨⟨c, now⟩, hx109⟩ : ∃ z, x109 = z := ⟨_, rfl⟩
    subst hx109
    have hnow := ok109
    dsimp only at hnow ⊢
    refine A4 rfl rfl rfl rfl rfl ?_
    refine A1 rfl rfl rfl (D0 rfl (A0 rfl) rfl) ?_
    refine A1 rfl rfl rfl (D0 rfl (A0 rfl) rfl) ?_
    refine F3 rfl rfl rfl rfl Tryz.zeroValue88 rfl ?_
    intro b15
    refine D5 0 rfl rfl rfl (A0 rfl) (A0 rfl) (E8 _) rfl H6 rfl ?_
    refine B2 rfl rfl rfl rfl rfl ?_
    refine A5 (A3 (A2 ?_))
    refine A4 rfl rfl rfl rfl rfl ?_
    refine G0 [] rfl rfl rfl rfl Tryz.call49 rfl (g7 more hb1) (A7 (A0 rfl) C0) rfl ?_
    intro x114 ok114
    obtain ⟨⟨c2, now2⟩, hx114⟩ : ∃ z, x114 = z := ⟨_, rfl⟩
    subst hx114
    dsimp only
    refine A4 rfl rfl rfl rfl rfl ?_
    refine A1 rfl rfl rfl (D0 rfl (A0 rfl) rfl) ?_
    refine A1 rfl rfl rfl (D0 rfl (A0 rfl) rfl) ?_
    refine F3 rfl rfl rfl rfl Tryz.zeroValue88 rfl ?_
    intro b17
    refine D5 0 rfl rfl rfl (A0 rfl) (A0 rfl) (E8 _) rfl H6 rfl ?_
    refine B2 rfl rfl rfl rfl rfl ?_
    refine A5 (A3 (A2 ?_))
    refine A4 rfl rfl rfl rfl rfl ?_
    refine G0 [] rfl rfl rfl rfl Tryz.call50 rfl (U8 more hb1) (A7 (A0 rfl) C0) rfl ?_
    intro x119 ok119
    obtain ⟨⟨S, y⟩, hx119⟩ : ∃ z, x119 = z := ⟨_, rfl⟩
    subst hx119
    have hSS : S.size ≤ 33045 := ok119
    dsimp only
    refine A4 rfl rfl rfl rfl rfl ?_
    refine A1 rfl rfl rfl (D0 rfl (A0 rfl) rfl) ?_
    refine A1 rfl rfl rfl (D0 rfl (A0 rfl) rfl) ?_
    refine F3 rfl rfl rfl rfl Tryz.zeroValue30 rfl ?_
    intro b19
    refine F3 rfl rfl rfl rfl Tryz.zeroValue82 rfl ?_
    intro b20
    refine D5 1 rfl rfl rfl (A0 rfl) (A0 rfl) (E8 _) rfl D3 rfl ?_
    refine D5 0 rfl rfl rfl (A0 rfl) (A0 rfl) (E8 _) rfl F8 rfl ?_
    refine A5 (A3 (A2 ?_))
    refine A1 rfl rfl rfl (E4 3 rfl (A0 rfl) rfl L4 H6 rfl) ?_
    refine A4 rfl rfl rfl rfl rfl ?_
    refine A1 rfl rfl rfl (D6 rfl Tryz.call51 rfl (o5 c now) (A7 (A0 rfl) (A7 (A0 rfl) C0))) ?_
    refine A4 rfl rfl rfl rfl rfl ?_
    refine A1 rfl rfl rfl (D0 rfl (A0 rfl) rfl) ?_
    refine A1 rfl rfl rfl (D0 rfl (A0 rfl) rfl) ?_
    refine F3 rfl rfl rfl rfl Tryz.zeroValue82 rfl ?_
    intro b21
    refine D5 0 rfl rfl rfl (A0 rfl) (A0 rfl) (E8 _) rfl F8 rfl ?_
    refine B2 rfl rfl rfl rfl rfl ?_
    refine A5 (A3 (A2 ?_))
    refine A1 rfl rfl rfl (E4 3 rfl (A0 rfl) rfl L4 H6 rfl) ?_
    refine A4 rfl rfl rfl rfl rfl ?_
    refine A1 rfl rfl rfl (D6 rfl Tryz.call51 rfl (o5 c2 now) (A7 (A0 rfl) (A7 (A0 rfl) C0))) ?_
    refine A4 rfl rfl rfl rfl rfl ?_
    refine A1 rfl rfl rfl (D0 rfl (A0 rfl) rfl) ?_
    refine A1 rfl rfl rfl (D0 rfl (A0 rfl) rfl) ?_
    refine F3 rfl rfl rfl rfl Tryz.zeroValue82 rfl ?_
    intro b23
    refine D5 0 rfl rfl rfl (A0 rfl) (A0 rfl) (E8 _) rfl F8 rfl ?_
    refine B2 rfl rfl rfl rfl rfl ?_
    refine A5 (A3 (A3 (A2 ?_)))
    refine A4 rfl rfl rfl rfl rfl ?_
    refine A4 rfl rfl rfl rfl rfl ?_
    refine A9 rfl rfl (B1 rfl rfl rfl) (fun hc => C4 rfl (A0 rfl)) ?_
    refine A1 rfl rfl rfl (G1 rfl (A0 rfl) (E3 rfl)) ?_
    refine A4 rfl rfl rfl rfl rfl ?_
    refine A9 rfl rfl (B1 rfl rfl rfl) (fun hc => C4 rfl (A0 rfl)) ?_
    refine A9 rfl rfl (B1 rfl rfl rfl) (fun hc => J8 rfl (A8 rfl hc) B5) ?_
    refine A1 rfl rfl rfl (G1 rfl (A0 rfl) (E3 rfl)) ?_
    refine A5 ?_
    refine C8 (A0 rfl) ?_ ?_
    ·intro h141
     simp only [Bool.and_eq_true, decide_eq_true_eq] at h141
     obtain ⟨hs1, hcb, hn0, hn1⟩ := AI8 h141.1.1
     obtain ⟨hs2, hcb2, _, _⟩ := AI8 h141.1.2
     obtain ⟨u, hu1, hu2⟩ := AQ3 hcb hn0 h141.2
     rw [hs1, hs2]
     refine A3 (A2 ?_)
     refine A1 rfl rfl rfl (E4 1 rfl (A0 rfl) rfl I5 F8 rfl) ?_
     refine A1 rfl rfl rfl (D6 rfl Tryz.call52 rfl (AE2 (spanOf c now)) (A7 (A0 rfl) C0)) ?_
     refine A4 rfl rfl rfl rfl rfl ?_
     refine A1 rfl rfl rfl (D0 rfl (A0 rfl) rfl) ?_
     refine A1 rfl rfl rfl (D0 rfl (A0 rfl) rfl) ?_
     refine B2 rfl rfl rfl rfl rfl ?_
     refine B2 rfl rfl rfl rfl rfl ?_
     refine A5 (A3 (A2 ?_))
     refine A1 rfl rfl rfl (E4 3 rfl (A0 rfl) rfl F1 D3 rfl) ?_
     refine A1 rfl rfl rfl (E4 0 rfl (A0 rfl) rfl I5 F8 rfl) ?_
     refine A1 rfl rfl rfl (D6 rfl Tryz.call53 rfl (Y7 S (spanOf c2 now) (by omega)) (A7 (A0 rfl) (A7 (A0 rfl) C0))) ?_
     refine A4 rfl rfl rfl rfl rfl ?_
     refine A1 rfl rfl rfl (D0 rfl (A0 rfl) rfl) ?_
     refine A1 rfl rfl rfl (D0 rfl (A0 rfl) rfl) ?_
     refine B2 rfl rfl rfl rfl rfl ?_
     refine B2 rfl rfl rfl rfl rfl ?_
     refine A5 (A3 (A3 (A2 ?_)))
     refine A4 rfl rfl rfl rfl rfl ?_
     refine A4 rfl rfl rfl rfl rfl ?_
     refine A9 rfl rfl (B1 rfl rfl rfl) (fun hc => C4 rfl (A0 rfl)) ?_
     refine A1 rfl rfl rfl (G1 rfl (A0 rfl) (E3 rfl)) ?_
     refine A4 rfl rfl rfl rfl rfl ?_
     refine A9 rfl rfl (B1 rfl rfl rfl) (fun hc => C4 rfl (A0 rfl)) ?_
     refine A9 rfl rfl (B1 rfl rfl rfl) (fun hc => C4 rfl (A0 rfl)) ?_
     refine A9 rfl rfl (B1 rfl rfl rfl) (fun hc => J8 rfl (A8 rfl hc) (A8 rfl hc)) ?_
     refine A1 rfl rfl rfl (G1 rfl (A0 rfl) (E3 rfl)) ?_
     refine A5 ?_
     refine C8 (A0 rfl) ?_ ?_
     ·intro h161
      exfalso; simp only [Bool.and_eq_true, decide_eq_true_eq] at h161; exact AW2 h161.1.1 h161.1.2 (show now + c.Off + 5 ≤ now + c2.Off + 5 + 10 by omega) h161.2
     ·intro h161
      refine D1 (A3 (A2 ?_))
      refine A1 rfl rfl rfl (E4 5 rfl (A0 rfl) rfl L4 H6 rfl) ?_
      refine A4 rfl rfl rfl rfl rfl ?_
      refine A4 rfl rfl rfl rfl rfl ?_
      refine A1 rfl rfl rfl (G5 rfl B5 (A0 rfl) (by first | omega | (simp only [A6, B0, B7, C1, B3, szR] at *; omega))) ?_
      refine A1 rfl rfl rfl (D6 rfl Tryz.call54 rfl (Y6 c now (1 + now)) (A7 (A0 rfl) (A7 (A0 rfl) (A7 (A0 rfl) C0)))) ?_
      refine A4 rfl rfl rfl rfl rfl ?_
      refine A1 rfl rfl rfl (D0 rfl (A0 rfl) rfl) ?_
      refine A1 rfl rfl rfl (D0 rfl (A0 rfl) rfl) ?_
      refine B2 rfl rfl rfl rfl rfl ?_
      refine B2 rfl rfl rfl rfl rfl ?_
      refine A5 (A3 (A2 ?_))
      refine A4 rfl rfl rfl rfl rfl ?_
      refine A4 rfl rfl rfl rfl rfl ?_
      refine A1 rfl rfl rfl (G5 rfl B5 (A0 rfl) (by first | omega | (simp only [A6, B0, B7, C1, B3, szR] at *; omega))) ?_
      refine A4 rfl rfl rfl rfl rfl ?_
      refine A1 rfl rfl rfl (D6 rfl Tryz.call55 rfl (AB0 now (1 + now) (afterR c now (1 + now)).1) (A7 (A0 rfl) (A7 (A0 rfl) (A7 (A0 rfl) C0)))) ?_
      refine A4 rfl rfl rfl rfl rfl ?_
      refine A1 rfl rfl rfl (D0 rfl (A0 rfl) rfl) ?_
      refine A1 rfl rfl rfl (D0 rfl (A0 rfl) rfl) ?_
      refine B2 rfl rfl rfl rfl rfl ?_
      refine B2 rfl rfl rfl rfl rfl ?_
      refine A5 (A3 (A2 ?_))
      refine A4 rfl rfl rfl rfl rfl ?_
      refine A1 rfl rfl rfl (I4 rfl (A0 rfl)) ?_
      refine A4 rfl rfl rfl rfl rfl ?_
      refine A9 rfl rfl (C9 rfl rfl rfl) (fun hc => C4 rfl (A0 rfl)) ?_
      refine A9 rfl rfl (C9 rfl rfl rfl) (fun hc => I4 rfl (A8 rfl hc)) ?_
      refine A1 rfl rfl rfl (N4 rfl (A0 rfl) (E3 rfl)) ?_
      refine A4 rfl rfl rfl rfl rfl ?_
      refine A9 rfl rfl (C9 rfl rfl rfl) (fun hc => C4 rfl (A0 rfl)) ?_
      refine A9 rfl rfl (C9 rfl rfl rfl) (fun hc => I4 rfl (A8 rfl hc)) ?_
      refine A1 rfl rfl rfl (N4 rfl (A0 rfl) (E3 rfl)) ?_
      refine A5 ?_
      refine C8 (A0 rfl) ?_ ?_
      ·intro h187
       exfalso; rw [hu1] at h187; dsimp only at h187; rw [hu2] at h187; simp at h187
      ·intro h187
       refine D1 (A3 (A2 ?_))
       refine A4 rfl rfl rfl rfl rfl ?_
       refine G0 [] rfl rfl rfl rfl Tryz.call56 rfl (a6 more hb1) (A7 (A0 rfl) C0) rfl ?_
       intro x190 ok190
       obtain ⟨⟨e, f, g⟩, hx190⟩ : ∃ z, x190 = z := ⟨_, rfl⟩
       subst hx190
       dsimp only
       refine A4 rfl rfl rfl rfl rfl ?_
       refine A1 rfl rfl rfl (D0 rfl (A0 rfl) rfl) ?_
       refine A1 rfl rfl rfl (D0 rfl (A0 rfl) rfl) ?_
       refine A1 rfl rfl rfl (D0 rfl (A0 rfl) rfl) ?_
       refine F3 rfl rfl rfl rfl Tryz.zeroValue88 rfl ?_
       intro b33
       refine D5 0 rfl rfl rfl (A0 rfl) (A0 rfl) (E8 _) rfl H6 rfl ?_
       refine B2 rfl rfl rfl rfl rfl ?_
       refine B2 rfl rfl rfl rfl rfl ?_
       refine A5 (A3 (A2 ?_))
       refine A1 rfl rfl rfl (E4 0 rfl (A0 rfl) rfl L4 H6 rfl) ?_
       refine A4 rfl rfl rfl rfl rfl ?_
       refine A4 rfl rfl rfl rfl rfl ?_
       refine A1 rfl rfl rfl (D6 rfl Tryz.call54 rfl (Y6 e f g) (A7 (A0 rfl) (A7 (A0 rfl) (A7 (A0 rfl) C0)))) ?_
       refine A4 rfl rfl rfl rfl rfl ?_
       refine A1 rfl rfl rfl (D0 rfl (A0 rfl) rfl) ?_
       refine A1 rfl rfl rfl (D0 rfl (A0 rfl) rfl) ?_
       refine B2 rfl rfl rfl rfl rfl ?_
       refine B2 rfl rfl rfl rfl rfl ?_
       refine A5 (A3 (A2 ?_))
       refine A1 rfl rfl rfl (E4 0 rfl (A0 rfl) rfl L4 H6 rfl) ?_
       refine A4 rfl rfl rfl rfl rfl ?_
       refine A4 rfl rfl rfl rfl rfl ?_
       refine A1 rfl rfl rfl (D6 rfl Tryz.call57 rfl (d5 e f g) (A7 (A0 rfl) (A7 (A0 rfl) (A7 (A0 rfl) C0)))) ?_
       refine A4 rfl rfl rfl rfl rfl ?_
       refine A1 rfl rfl rfl (D0 rfl (A0 rfl) rfl) ?_
       refine A1 rfl rfl rfl (D0 rfl (A0 rfl) rfl) ?_
       refine B2 rfl rfl rfl rfl rfl ?_
       refine B2 rfl rfl rfl rfl rfl ?_
       refine A5 (A3 (A2 ?_))
       refine A4 rfl rfl rfl rfl rfl ?_
       refine G0 [] rfl rfl rfl rfl Tryz.call50 rfl (U8 more hb1) (A7 (A0 rfl) C0) rfl ?_
       intro x210 ok210
       obtain ⟨⟨S2, y2⟩, hx210⟩ : ∃ z, x210 = z := ⟨_, rfl⟩
       subst hx210
       have hS2 : S2.size ≤ 33045 := ok210
       dsimp only
       refine A4 rfl rfl rfl rfl rfl ?_
       refine A1 rfl rfl rfl (D0 rfl (A0 rfl) rfl) ?_
       refine A1 rfl rfl rfl (D0 rfl (A0 rfl) rfl) ?_
       refine F3 rfl rfl rfl rfl Tryz.zeroValue30 rfl ?_
       intro b40
       refine F3 rfl rfl rfl rfl Tryz.zeroValue82 rfl ?_
       intro b41
       refine D5 1 rfl rfl rfl (A0 rfl) (A0 rfl) (E8 _) rfl D3 rfl ?_
       refine D5 0 rfl rfl rfl (A0 rfl) (A0 rfl) (E8 _) rfl F8 rfl ?_
       refine A5 (A3 (A2 ?_))
       refine A1 rfl rfl rfl (E4 1 rfl (A0 rfl) rfl F1 D3 rfl) ?_
       refine A1 rfl rfl rfl (E4 0 rfl (A0 rfl) rfl I5 F8 rfl) ?_
       refine A1 rfl rfl rfl (D6 rfl Tryz.call53 rfl (Y7 S2 y2 (by omega)) (A7 (A0 rfl) (A7 (A0 rfl) C0))) ?_
       refine A4 rfl rfl rfl rfl rfl ?_
       refine A1 rfl rfl rfl (D0 rfl (A0 rfl) rfl) ?_
       refine A1 rfl rfl rfl (D0 rfl (A0 rfl) rfl) ?_
       refine B2 rfl rfl rfl rfl rfl ?_
       refine B2 rfl rfl rfl rfl rfl ?_
       refine A5 (A3 (A2 ?_))
       refine A1 rfl rfl rfl (E4 1 rfl (A0 rfl) rfl F1 D3 rfl) ?_
       refine A1 rfl rfl rfl (E4 0 rfl (A0 rfl) rfl I5 F8 rfl) ?_
       refine A1 rfl rfl rfl (D6 rfl Tryz.call58 rfl (d6 S2 y2 (by omega)) (A7 (A0 rfl) (A7 (A0 rfl) C0))) ?_
       refine A4 rfl rfl rfl rfl rfl ?_
       refine A1 rfl rfl rfl (D0 rfl (A0 rfl) rfl) ?_
       refine A1 rfl rfl rfl (D0 rfl (A0 rfl) rfl) ?_
       refine B2 rfl rfl rfl rfl rfl ?_
       refine B2 rfl rfl rfl rfl rfl ?_
       refine A5 (A3 (A2 ?_))
       refine A4 rfl rfl rfl rfl rfl ?_
       refine G0 [] rfl rfl rfl rfl Tryz.call59 rfl (d7 more hb1) (A7 (A0 rfl) C0) rfl ?_
       intro x227 ok227
       obtain ⟨⟨S3, k3, t3⟩, hx227⟩ : ∃ z, x227 = z := ⟨_, rfl⟩
       subst hx227
       obtain ⟨hS3, hk3⟩ := ok227
       dsimp only at hS3 hk3 ⊢
       refine A4 rfl rfl rfl rfl rfl ?_
       refine A1 rfl rfl rfl (D0 rfl (A0 rfl) rfl) ?_
       refine A1 rfl rfl rfl (D0 rfl (A0 rfl) rfl) ?_
       refine A1 rfl rfl rfl (D0 rfl (A0 rfl) rfl) ?_
       refine F3 rfl rfl rfl rfl Tryz.zeroValue30 rfl ?_
       intro b46
       refine D5 0 rfl rfl rfl (A0 rfl) (A0 rfl) (E8 _) rfl D3 rfl ?_
       refine B2 rfl rfl rfl rfl rfl ?_
       refine B2 rfl rfl rfl rfl rfl ?_
       refine A5 (A3 (A2 ?_))
       refine A1 rfl rfl rfl (E4 0 rfl (A0 rfl) rfl F1 D3 rfl) ?_
       refine A4 rfl rfl rfl rfl rfl ?_
       refine A4 rfl rfl rfl rfl rfl ?_
       refine A1 rfl rfl rfl (D6 rfl Tryz.call60 rfl (m4 S3 k3 t3 (by omega) (by omega)) (A7 (A0 rfl) (A7 (A0 rfl) (A7 (A0 rfl) C0)))) ?_
       refine A4 rfl rfl rfl rfl rfl ?_
       refine A1 rfl rfl rfl (D0 rfl (A0 rfl) rfl) ?_
       refine A1 rfl rfl rfl (D0 rfl (A0 rfl) rfl) ?_
       refine B2 rfl rfl rfl rfl rfl ?_
       refine B2 rfl rfl rfl rfl rfl ?_
       refine A5 (A3 (A2 ?_))
       refine A1 rfl rfl rfl (E4 0 rfl (A0 rfl) rfl F1 D3 rfl) ?_
       refine A4 rfl rfl rfl rfl rfl ?_
       refine A4 rfl rfl rfl rfl rfl ?_
       refine A1 rfl rfl rfl (D6 rfl Tryz.call61 rfl (i8 S3 k3 t3 (by omega) (by omega)) (A7 (A0 rfl) (A7 (A0 rfl) (A7 (A0 rfl) C0)))) ?_
       refine A4 rfl rfl rfl rfl rfl ?_
       refine A1 rfl rfl rfl (D0 rfl (A0 rfl) rfl) ?_
       refine A1 rfl rfl rfl (D0 rfl (A0 rfl) rfl) ?_
       refine B2 rfl rfl rfl rfl rfl ?_
       refine B2 rfl rfl rfl rfl rfl ?_
       refine A5 (A3 (A2 ?_))
       refine A4 rfl rfl rfl rfl rfl ?_
       refine A4 rfl rfl rfl rfl rfl ?_
       refine A1 rfl rfl rfl (X8 rfl M2 (A0 rfl) (A0 rfl)) ?_
       refine A4 rfl rfl rfl rfl rfl ?_
       refine A9 rfl rfl (B1 rfl rfl rfl) (fun hc => C4 rfl (A0 rfl)) ?_
       refine A9 rfl rfl (B1 rfl rfl rfl) (fun hc => C4 rfl (A0 rfl)) ?_
       refine A9 rfl rfl (B1 rfl rfl rfl) (fun hc => M5 rfl (A8 rfl hc) (A8 rfl hc)) ?_
       refine A1 rfl rfl rfl (G1 rfl (A0 rfl) (E3 rfl)) ?_
       refine A4 rfl rfl rfl rfl rfl ?_
       refine A9 rfl rfl (B1 rfl rfl rfl) (fun hc => C4 rfl (A0 rfl)) ?_
       refine A9 rfl rfl (B1 rfl rfl rfl) (fun hc => C4 rfl (A0 rfl)) ?_
       refine A9 rfl rfl (B1 rfl rfl rfl) (fun hc => X8 rfl M2 (A8 rfl hc) (A8 rfl hc)) ?_
       refine A1 rfl rfl rfl (G1 rfl (A0 rfl) (E3 rfl)) ?_
       refine A4 rfl rfl rfl rfl rfl ?_
       refine A9 rfl rfl (B1 rfl rfl rfl) (fun hc => C4 rfl (A0 rfl)) ?_
       refine A9 rfl rfl (B1 rfl rfl rfl) (fun hc => C4 rfl (A0 rfl)) ?_
       refine A9 rfl rfl (B1 rfl rfl rfl) (fun hc => M5 rfl (A8 rfl hc) (A8 rfl hc)) ?_
       refine A1 rfl rfl rfl (G1 rfl (A0 rfl) (E3 rfl)) ?_
       refine A4 rfl rfl rfl rfl rfl ?_
       refine A9 rfl rfl (B1 rfl rfl rfl) (fun hc => C4 rfl (A0 rfl)) ?_
       refine A9 rfl rfl (B1 rfl rfl rfl) (fun hc => C4 rfl (A0 rfl)) ?_
       refine A9 rfl rfl (B1 rfl rfl rfl) (fun hc => X8 rfl M2 (A8 rfl hc) (A8 rfl hc)) ?_
       refine A1 rfl rfl rfl (G1 rfl (A0 rfl) (E3 rfl)) ?_
       refine A4 rfl rfl rfl rfl rfl ?_
       refine A9 rfl rfl (B1 rfl rfl rfl) (fun hc => C4 rfl (A0 rfl)) ?_
       refine A9 rfl rfl (B1 rfl rfl rfl) (fun hc => C4 rfl (A0 rfl)) ?_
       refine A9 rfl rfl (B1 rfl rfl rfl) (fun hc => X8 rfl M2 (A8 rfl hc) (A8 rfl hc)) ?_
       refine A1 rfl rfl rfl (G1 rfl (A0 rfl) (E3 rfl)) ?_
       refine B2 rfl rfl rfl rfl rfl ?_
       refine A5 ?_
       refine C6 ?_
       exact H1 rfl (C3 rfl (by first | rfl | exact congrArg AV.bool (by simp)))
    ·intro h141
     refine D1 (A3 (A2 ?_))
     refine A4 rfl rfl rfl rfl rfl ?_
     refine G0 [] rfl rfl rfl rfl Tryz.call56 rfl (a6 more hb1) (A7 (A0 rfl) C0) rfl ?_
     intro x190 ok190
     obtain ⟨⟨e, f, g⟩, hx190⟩ : ∃ z, x190 = z := ⟨_, rfl⟩
     subst hx190
     dsimp only
     refine A4 rfl rfl rfl rfl rfl ?_
     refine A1 rfl rfl rfl (D0 rfl (A0 rfl) rfl) ?_
     refine A1 rfl rfl rfl (D0 rfl (A0 rfl) rfl) ?_
     refine A1 rfl rfl rfl (D0 rfl (A0 rfl) rfl) ?_
     refine F3 rfl rfl rfl rfl Tryz.zeroValue88 rfl ?_
     intro b33
     refine D5 0 rfl rfl rfl (A0 rfl) (A0 rfl) (E8 _) rfl H6 rfl ?_
     refine B2 rfl rfl rfl rfl rfl ?_
     refine B2 rfl rfl rfl rfl rfl ?_
     refine A5 (A3 (A2 ?_))
     refine A1 rfl rfl rfl (E4 0 rfl (A0 rfl) rfl L4 H6 rfl) ?_
     refine A4 rfl rfl rfl rfl rfl ?_
     refine A4 rfl rfl rfl rfl rfl ?_
     refine A1 rfl rfl rfl (D6 rfl Tryz.call54 rfl (Y6 e f g) (A7 (A0 rfl) (A7 (A0 rfl) (A7 (A0 rfl) C0)))) ?_
     refine A4 rfl rfl rfl rfl rfl ?_
     refine A1 rfl rfl rfl (D0 rfl (A0 rfl) rfl) ?_
     refine A1 rfl rfl rfl (D0 rfl (A0 rfl) rfl) ?_
     refine B2 rfl rfl rfl rfl rfl ?_
     refine B2 rfl rfl rfl rfl rfl ?_
     refine A5 (A3 (A2 ?_))
     refine A1 rfl rfl rfl (E4 0 rfl (A0 rfl) rfl L4 H6 rfl) ?_
     refine A4 rfl rfl rfl rfl rfl ?_
     refine A4 rfl rfl rfl rfl rfl ?_
     refine A1 rfl rfl rfl (D6 rfl Tryz.call57 rfl (d5 e f g) (A7 (A0 rfl) (A7 (A0 rfl) (A7 (A0 rfl) C0)))) ?_
     refine A4 rfl rfl rfl rfl rfl ?_
     refine A1 rfl rfl rfl (D0 rfl (A0 rfl) rfl) ?_
     refine A1 rfl rfl rfl (D0 rfl (A0 rfl) rfl) ?_
     refine B2 rfl rfl rfl rfl rfl ?_
     refine B2 rfl rfl rfl rfl rfl ?_
     refine A5 (A3 (A2 ?_))
     refine A4 rfl rfl rfl rfl rfl ?_
     refine G0 [] rfl rfl rfl rfl Tryz.call50 rfl (U8 more hb1) (A7 (A0 rfl) C0) rfl ?_
     intro x210 ok210
     obtain ⟨⟨S2, y2⟩, hx210⟩ : ∃ z, x210 = z := ⟨_, rfl⟩
     subst hx210
     have hS2 : S2.size ≤ 33045 := ok210
     dsimp only
     refine A4 rfl rfl rfl rfl rfl ?_
     refine A1 rfl rfl rfl (D0 rfl (A0 rfl) rfl) ?_
     refine A1 rfl rfl rfl (D0 rfl (A0 rfl) rfl) ?_
     refine F3 rfl rfl rfl rfl Tryz.zeroValue30 rfl ?_
     intro b40
     refine F3 rfl rfl rfl rfl Tryz.zeroValue82 rfl ?_
     intro b41
     refine D5 1 rfl rfl rfl (A0 rfl) (A0 rfl) (E8 _) rfl D3 rfl ?_
     refine D5 0 rfl rfl rfl (A0 rfl) (A0 rfl) (E8 _) rfl F8 rfl ?_
     refine A5 (A3 (A2 ?_))
     refine A1 rfl rfl rfl (E4 1 rfl (A0 rfl) rfl F1 D3 rfl) ?_
     refine A1 rfl rfl rfl (E4 0 rfl (A0 rfl) rfl I5 F8 rfl) ?_
     refine A1 rfl rfl rfl (D6 rfl Tryz.call53 rfl (Y7 S2 y2 (by omega)) (A7 (A0 rfl) (A7 (A0 rfl) C0))) ?_
     refine A4 rfl rfl rfl rfl rfl ?_
     refine A1 rfl rfl rfl (D0 rfl (A0 rfl) rfl) ?_
     refine A1 rfl rfl rfl (D0 rfl (A0 rfl) rfl) ?_
     refine B2 rfl rfl rfl rfl rfl ?_
     refine B2 rfl rfl rfl rfl rfl ?_
     refine A5 (A3 (A2 ?_))
     refine A1 rfl rfl rfl (E4 1 rfl (A0 rfl) rfl F1 D3 rfl) ?_
     refine A1 rfl rfl rfl (E4 0 rfl (A0 rfl) rfl I5 F8 rfl) ?_
     refine A1 rfl rfl rfl (D6 rfl Tryz.call58 rfl (d6 S2 y2 (by omega)) (A7 (A0 rfl) (A7 (A0 rfl) C0))) ?_
     refine A4 rfl rfl rfl rfl rfl ?_
     refine A1 rfl rfl rfl (D0 rfl (A0 rfl) rfl) ?_
     refine A1 rfl rfl rfl (D0 rfl (A0 rfl) rfl) ?_
     refine B2 rfl rfl rfl rfl rfl ?_
     refine B2 rfl rfl rfl rfl rfl ?_
     refine A5 (A3 (A2 ?_))
     refine A4 rfl rfl rfl rfl rfl ?_
     refine G0 [] rfl rfl rfl rfl Tryz.call59 rfl (d7 more hb1) (A7 (A0 rfl) C0) rfl ?_
     intro x227 ok227
     obtain ⟨⟨S3, k3, t3⟩, hx227⟩ : ∃ z, x227 = z := ⟨_, rfl⟩
     subst hx227
     obtain ⟨hS3, hk3⟩ := ok227
     dsimp only at hS3 hk3 ⊢
     refine A4 rfl rfl rfl rfl rfl ?_
     refine A1 rfl rfl rfl (D0 rfl (A0 rfl) rfl) ?_
     refine A1 rfl rfl rfl (D0 rfl (A0 rfl) rfl) ?_
     refine A1 rfl rfl rfl (D0 rfl (A0 rfl) rfl) ?_
     refine F3 rfl rfl rfl rfl Tryz.zeroValue30 rfl ?_
     intro b46
     refine D5 0 rfl rfl rfl (A0 rfl) (A0 rfl) (E8 _) rfl D3 rfl ?_
     refine B2 rfl rfl rfl rfl rfl ?_
     refine B2 rfl rfl rfl rfl rfl ?_
     refine A5 (A3 (A2 ?_))
     refine A1 rfl rfl rfl (E4 0 rfl (A0 rfl) rfl F1 D3 rfl) ?_
     refine A4 rfl rfl rfl rfl rfl ?_
     refine A4 rfl rfl rfl rfl rfl ?_
     refine A1 rfl rfl rfl (D6 rfl Tryz.call60 rfl (m4 S3 k3 t3 (by omega) (by omega)) (A7 (A0 rfl) (A7 (A0 rfl) (A7 (A0 rfl) C0)))) ?_
     refine A4 rfl rfl rfl rfl rfl ?_
     refine A1 rfl rfl rfl (D0 rfl (A0 rfl) rfl) ?_
     refine A1 rfl rfl rfl (D0 rfl (A0 rfl) rfl) ?_
     refine B2 rfl rfl rfl rfl rfl ?_
     refine B2 rfl rfl rfl rfl rfl ?_
     refine A5 (A3 (A2 ?_))
     refine A1 rfl rfl rfl (E4 0 rfl (A0 rfl) rfl F1 D3 rfl) ?_
     refine A4 rfl rfl rfl rfl rfl ?_
     refine A4 rfl rfl rfl rfl rfl ?_
     refine A1 rfl rfl rfl (D6 rfl Tryz.call61 rfl (i8 S3 k3 t3 (by omega) (by omega)) (A7 (A0 rfl) (A7 (A0 rfl) (A7 (A0 rfl) C0)))) ?_
     refine A4 rfl rfl rfl rfl rfl ?_
     refine A1 rfl rfl rfl (D0 rfl (A0 rfl) rfl) ?_
     refine A1 rfl rfl rfl (D0 rfl (A0 rfl) rfl) ?_
     refine B2 rfl rfl rfl rfl rfl ?_
     refine B2 rfl rfl rfl rfl rfl ?_
     refine A5 (A3 (A2 ?_))
     refine A4 rfl rfl rfl rfl rfl ?_
     refine A4 rfl rfl rfl rfl rfl ?_
     refine A1 rfl rfl rfl (X8 rfl M2 (A0 rfl) (A0 rfl)) ?_
     refine A4 rfl rfl rfl rfl rfl ?_
     refine A9 rfl rfl (B1 rfl rfl rfl) (fun hc => C4 rfl (A0 rfl)) ?_
     refine A9 rfl rfl (B1 rfl rfl rfl) (fun hc => C4 rfl (A0 rfl)) ?_
     refine A9 rfl rfl (B1 rfl rfl rfl) (fun hc => M5 rfl (A8 rfl hc) (A8 rfl hc)) ?_
     refine A1 rfl rfl rfl (G1 rfl (A0 rfl) (E3 rfl)) ?_
     refine A4 rfl rfl rfl rfl rfl ?_
     refine A9 rfl rfl (B1 rfl rfl rfl) (fun hc => C4 rfl (A0 rfl)) ?_
     refine A9 rfl rfl (B1 rfl rfl rfl) (fun hc => C4 rfl (A0 rfl)) ?_
     refine A9 rfl rfl (B1 rfl rfl rfl) (fun hc => X8 rfl M2 (A8 rfl hc) (A8 rfl hc)) ?_
     refine A1 rfl rfl rfl (G1 rfl (A0 rfl) (E3 rfl)) ?_
     refine A4 rfl rfl rfl rfl rfl ?_
     refine A9 rfl rfl (B1 rfl rfl rfl) (fun hc => C4 rfl (A0 rfl)) ?_
     refine A9 rfl rfl (B1 rfl rfl rfl) (fun hc => C4 rfl (A0 rfl)) ?_
     refine A9 rfl rfl (B1 rfl rfl rfl) (fun hc => M5 rfl (A8 rfl hc) (A8 rfl hc)) ?_
     refine A1 rfl rfl rfl (G1 rfl (A0 rfl) (E3 rfl)) ?_
     refine A4 rfl rfl rfl rfl rfl ?_
     refine A9 rfl rfl (B1 rfl rfl rfl) (fun hc => C4 rfl (A0 rfl)) ?_
     refine A9 rfl rfl (B1 rfl rfl rfl) (fun hc => C4 rfl (A0 rfl)) ?_
     refine A9 rfl rfl (B1 rfl rfl rfl) (fun hc => X8 rfl M2 (A8 rfl hc) (A8 rfl hc)) ?_
     refine A1 rfl rfl rfl (G1 rfl (A0 rfl) (E3 rfl)) ?_
     refine A4 rfl rfl rfl rfl rfl ?_
     refine A9 rfl rfl (B1 rfl rfl rfl) (fun hc => C4 rfl (A0 rfl)) ?_
     refine A9 rfl rfl (B1 rfl rfl rfl) (fun hc => C4 rfl (A0 rfl)) ?_
     refine A9 rfl rfl (B1 rfl rfl rfl) (fun hc => X8 rfl M2 (A8 rfl hc) (A8 rfl hc)) ?_
     refine A1 rfl rfl rfl (G1 rfl (A0 rfl) (E3 rfl)) ?_
     refine B2 rfl rfl rfl rfl rfl ?_
     refine A5 ?_
     refine C6 ?_
     exact H1 rfl (C3 rfl (by first | rfl | exact congrArg AV.bool (by simp)))
end
theorem AL3 : Opens Tryz.prog 22 (List Int) (fun l => [bytesI l]) (fun l => ∀ x ∈ l, (Lit.int .u8 x).wf = true) := Af0 (sz := 1) R9 (by kernel_rfl) (An6 Tryz.underlying5) (fun _ => rfl)
set_option maxRecDepth 100000 in
theorem fnStamps_lifted (os : Os) (started : os.Started) (H : Type) (enc : TypeId × Value → H) :
    ReturnsInHanded {} Tryz.checked os 6 .any (Rows.fnStampsSpec.pre6 enc Tryz.prog Tryz.f6 Rows.fnStampsRow.domain false) (Rows.fnStampsSpec.post enc Tryz.prog Tryz.f6 false true false false) := by
  refine returnsInHanded_of_change (C := Tryz.checked) (by kernel_rfl) started (by kernel_rfl) Tryz.func6
    (ChangeSpec.witness6 (enc := enc) (C := Tryz.checked) false ⟨#[], #[.slice none 0 0, .slice none 0 0], []⟩ 8 (by kernel_rfl) (by kernel_rfl) (by kernel_rfl) (by kernel_rfl)) ?_
  intro W base args ds gs before hval0 hW hcnd _
  have hval : ∀ (j : Nat) t v, Tryz.f6.params[j]? = some t → args[j]? = some v → Value.okWide Tryz.prog W .any base t v := hval0
  have hW2 := hW
  obtain ⟨p, q, hA0, hV, rfl, hfz, hnd⟩ := hW
  have hA : DataW.TrodAll enc Tryz.prog W 0 (fun _ => true) true Tryz.f6.params.toList args.toList ds p := hA0
  rw [Tryz.params6] at hA hval
  obtain ⟨v0, vs0, d0, ds0, p0, q0, hargs, rfl, rfl, h0, r0⟩ := trodAll_cons hA
  obtain ⟨v1, vs1, d1, ds1, p1, q1, rfl, rfl, rfl, h1, r1⟩ := trodAll_cons r0
  obtain ⟨rfl, rfl, rfl⟩ := trodAll_nil r1
  obtain rfl : args = #[v0, v1] := by cases args; simp_all
  obtain ⟨rfl, rfl⟩ := trodVars_none hV
  have lt0 : ∀ x ∈ p0, x.block < W.heap.size := by obtain ⟨m, hm⟩ := h0; exact DataW.trod_lt m _ _ _ hm
  obtain ⟨a0, w0, g0⟩ := Ah1 (AL3) (by obtain ⟨y1, y2, y3, rfl⟩ := okWide_slice R9 (hval 0 22 v0 rfl rfl); rfl) h0
  have lt1 : ∀ x ∈ p1, x.block < W.heap.size := by obtain ⟨m, hm⟩ := h1; exact DataW.trod_lt m _ _ _ hm
  obtain ⟨a1, w1, g1⟩ := Ah1 (AL3) (by obtain ⟨y1, y2, y3, rfl⟩ := okWide_slice R9 (hval 1 22 v1 rfl rfl); rfl) h1
  have hcall := An7 (AX8 a0 w0 a1 w1) (DenV.cons g0 (DenV.cons g1 (DenV.nil _)))
  clear hA0 hval0
  refine Calls.mono hcall fun e W2 ⟨he, bel⟩ => ?_
  subst he
  exact ⟨_, rfl, _, _, _, [], _, [], hW2, trodAll_mk1 (shut_bool M2 _), (trodAll_cons_mk (Below.trod (by kernel_rfl : laidOutB Tryz.prog = true) (by kernel_rfl) (of_decide_eq_true (by kernel_rfl)) h0 bel lt0) (trodAll_cons_mk (Below.trod (by kernel_rfl : laidOutB Tryz.prog = true) (by kernel_rfl) (of_decide_eq_true (by kernel_rfl)) h1 bel lt1) trodAll_mk0)), rfl, bel.frame _, fun h => by cases h⟩
theorem Ac6 {a b : Bool} (h : a = true) (k : b = true) : (a && b) = true := by rw [h, k]; rfl
set_option maxRecDepth 100000 in
theorem AS3 : joinedFacts Tryz.pinned.checked.prog 6 Tryz.f6 Rows.fnStampsSpec Rows.fnStampsRow = true := by
  unfold joinedFacts
  iterate 18 (rw [Bool.and_assoc])
  refine Ac6 ?_ ?_
  · as_aux_lemma => kernel_rfl
  · as_aux_lemma => kernel_rfl
theorem fnStamps_proved : Rows.FnStampsSaid :=
  OpenClaim.holds_of_wide 6 Tryz.f6 rfl rfl rfl rfl rfl rfl rfl ⟨rfl, rfl, rfl, rfl, rfl⟩ rfl rfl rfl rfl rfl (by kernel_rfl) Tryz.func6 AS3
    (of_decide_eq_true (by kernel_rfl)) (by unfold Func.isWrapper; first | (rw [if_pos (by decide +kernel)]; kernel_rfl) | (rw [if_neg (by decide +kernel)]; exact ⟨rfl, rfl⟩))
    (fun os started H enc _ => fnStamps_lifted os started H enc)
end Go.Proofs.YtnlhbdkcgaeimaaGreat
