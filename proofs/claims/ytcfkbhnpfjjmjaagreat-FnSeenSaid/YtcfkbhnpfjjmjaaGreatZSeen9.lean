/- FnSeen: for every drawn history with a witness by time, each value that a deed read was written by the last writer ahead in that order, as the reference says; the order by time is the reference's, and its times do not fall. No condition. -/
import Derived.Test.YtcfkbhnpfjjmjaaGreatZSeen8
set_option linter.unusedVariables false
set_option linter.unusedSimpArgs false
set_option maxRecDepth 100000
set_option maxHeartbeats 4000000
namespace Go.M
open Go.AV
theorem BK6 {n : Int} : ∀ {o : List Int} (k : Int), n ∈ o → idxFrom (fun x => n == x) o k = k + (T3 o n).length
  | [], k, h => by cases h
  | x :: o, k, h => by
    unfold idxFrom T3
    by_cases e : n = x
    · subst e
      rw [if_pos S5, List.takeWhile_cons_of_neg S5]; simp
    · rw [if_neg (by simpa using e), List.takeWhile_cons_of_pos (by simpa using fun h9 => e h9.symm), BK6 (k + 1) (by cases h with | head => exact absurd rfl e | tail _ h9 => exact h9)]
      unfold T3
      rw [H4]; omega
theorem Bs6 (o : List Int) (n : Int) : o.take (T3 o n).length = T3 o n := by
  have := List.takeWhile_prefix (l := o) (fun m => m != n)
  exact (List.prefix_iff_eq_take.1 this).symm
theorem CE2 (o : List Int) (n : Int) : (T3 o n).length ≤ o.length := (List.takeWhile_prefix (l := o) (fun m => m != n)).length_le
theorem CE3 {o : List Int} {n : Int} {j : Nat} (h : ∀ m ∈ o.take j, m ≠ n) (hj : o[j]? = some n) : T3 o n = o.take j := by
  have e : o = o.take j ++ n :: o.drop (j + 1) := by rw [← drop_some hj, List.take_append_drop]
  have h2 : T3 (o.take j ++ n :: o.drop (j + 1)) n = o.take j := by
    unfold T3
    rw [List.takeWhile_append_of_pos (by intro m hm; simpa using h m hm), List.takeWhile_cons_of_neg S5, List.append_nil]
  rw [← e] at h2; exact h2
theorem Bs7 {o : List Int} {n : Int} (h : ∀ m ∈ o, m ≠ n) : T3 o n = o := by
  have := List.takeWhile_append_of_pos (l₁ := o) (l₂ := []) (p := fun m => m != n) (by intro m hm; simpa using h m hm)
  unfold T3; simpa using this
theorem BY7 {h : List C2} {l : List Int} {j : Nat} {m : Int} {k : Str} (hm : l[j]? = some m) : m1 h (l.take (j + 1)) k = if hasK (deedAt h m).Writes k = true then m else m1 h (l.take j) k := by
  unfold m1; rw [List.take_add_one, hm, List.foldl_append]; rfl
theorem Al0 {h : List C2} {l : List Int} {j : Nat} {m : Int} {k : Str} (hm : l[j]? = some m) (hh : hasK (deedAt h m).Writes k = true) : m1 h (l.take (j + 1)) k = m := by rw [BY7 hm, if_pos hh]
theorem Aa5 {h : List C2} {l : List Int} {j : Nat} {m : Int} {k : Str} (hm : l[j]? = some m) (hh : hasK (deedAt h m).Writes k = false) : m1 h (l.take (j + 1)) k = m1 h (l.take j) k := by rw [BY7 hm, if_neg (by rw [hh]; exact Bool.false_ne_true)]
theorem Bw1 {h : List C2} {n : Int} (hc : ((goodHist h && within n 0 ((h.length : Int) - 1)) && (deedAt h n).Yes) = false) : AI5 h n = ([], false) := by unfold AI5; rw [if_neg (by rw [hc]; exact Bool.false_ne_true)]
theorem Bm3 {h : List C2} {n : Int} (hc : ((goodHist h && within n 0 ((h.length : Int) - 1)) && (deedAt h n).Yes) = true) : AI5 h n = ((deedAt h n).Got.map fun g => m1 h (T3 (orderT h) n) g.Key, true) := by unfold AI5; rw [if_pos hc]
theorem BY8 {h : List C2} {n : Int} (hw : within n 0 ((h.length : Int) - 1) = true) : InH h n := by
  unfold within at hw; rw [Bool.and_eq_true, decide_eq_true_eq, decide_eq_true_eq] at hw; exact ⟨hw.1, by omega⟩
theorem hasP {h : List C2} (g : goodHist h = true) {n : Int} (hn : InH h n) (k : Str) : wHas (deedAt h n).Writes k = hasK (deedAt h n).Writes k := BV6 (Ac5 (Ap9 g (C4 (P6 hn)))).2.2 k
theorem Bm4 {h : List C2} {m : Int} (hm : m ∈ orderT h) : InH h m := (AZ9.1 hm).1
theorem BY9 (b c d : Bool) (e : (!b || !c || !d) = true) : (b && c && d) = false := by cases b <;> cases c <;> cases d <;> first | rfl | cases e
theorem BZ0 (b c d : Bool) (e : (!b || !c || !d) = false) : (b = true ∧ c = true) ∧ d = true := by cases b <;> cases c <;> cases d <;> first | (cases e; done) | exact ⟨⟨rfl, rfl⟩, rfl⟩
end Go.M
namespace Go.Proofs.YtcfkbhnpfjjmjaaGreat
open Go Go.AV Go.M
attribute [local irreducible] OpW OpA OpS AWP B9 J2 C9 OpE RetOk H0 I6 Le Ev F1 J8 Int.tmod Int.tdiv IntKind.wrap
theorem Bm5 (a b c : Int) : B9 Tryz.prog 25 [AV.int a, AV.int b, AV.int c] (AV.bool (decide (b ≤ a) && decide (a ≤ c))) := by
  have := s5 a b c; unfold within at this; exact this
theorem CE4 (a b c : Int) : B9 Tryz.prog 30 [AV.int a, AV.int b, AV.int c] (AV.bool (decide (b ≤ a) && decide (a ≤ c))) := by
  have := M9 a b c; unfold within at this; exact this
theorem AJ5 (h : List C2) (hl : h.length ≤ 10) : B9 Tryz.prog 45 [AV.list 8 (h.map C2.cs)] (ints (orderT h)) :=
  K2 (BK5 h hl) fun x _ => J5 (List.mem_singleton.2 rfl) F4
theorem Am8 (h : List C2) (hl : h.length ≤ 1000) : B9 Tryz.prog 49 [AV.list 8 (h.map C2.cs)] (ints (orderT h)) :=
  K2 (Bm2 h hl) fun x _ => J5 (List.mem_singleton.2 rfl) F4
theorem Aw8 (h : List C2) (hs : ∀ d ∈ h, d.size ≤ 1048576) (hl : h.length ≤ 10) : B9 Tryz.prog 19 [AV.list 8 (h.map C2.cs)] (AV.tup [ints (orderTR h).1, AV.bool (orderTR h).2]) := by
 refine B7 Tryz.func19 rfl Tryz.ntmps19 rfl ?_
 refine R2 ?_
 refine A4 rfl (D6 rfl (O6 (sz := 1))) ?_
 refine R6 ?_
 refine A4 rfl (B2 rfl Tryz.call44 rfl (AA2 _ n3) (A1 (A0 rfl) A7)) ?_
 refine R2 ?_
 refine A6 (A0 rfl) ?_ ?_
 ·intro h6
  rw [show orderTR h = ([], false) by unfold orderTR; rw [if_neg (by simpa using h6)]]
  refine R2 ?_
  refine A4 rfl (D6 rfl (O6 (sz := 1))) ?_
  refine R3 ?_
  exact U2 rfl D3 (B8 (A8 rfl B0) (B8 (A8 rfl B0) G6))
 intro h6
 rw [show orderTR h = (orderT h, true) by unfold orderTR; rw [if_pos (by simpa using h6)]]
 refine R4 ?_
 refine A4 rfl (B2 rfl Tryz.call45 rfl (AJ5 _ n3) (A1 (A0 rfl) A7)) ?_
 refine R4 ?_
 exact U2 rfl D3 (B8 (A8 rfl B0) (B8 (A8 rfl B0) G6))
theorem Aw9 (h : List C2) (hs : ∀ d ∈ h, d.size ≤ 1048576) (hl : h.length ≤ 1000) : B9 Tryz.prog 20 [AV.list 8 (h.map C2.cs)] (AV.tup [ints (orderTR h).1, AV.bool (orderTR h).2]) := by
 refine B7 Tryz.func20 rfl Tryz.ntmps20 rfl ?_
 refine R2 ?_
 refine A4 rfl (D6 rfl (O6 (sz := 1))) ?_
 refine R6 ?_
 refine A4 rfl (B2 rfl Tryz.call48 rfl (Ar3 _ n3) (A1 (A0 rfl) A7)) ?_
 refine R2 ?_
 refine A6 (A0 rfl) ?_ ?_
 ·intro h6
  rw [show orderTR h = ([], false) by unfold orderTR; rw [if_neg (by simpa using h6)]]
  refine R2 ?_
  refine A4 rfl (D6 rfl (O6 (sz := 1))) ?_
  refine R3 ?_
  exact U2 rfl D3 (B8 (A8 rfl B0) (B8 (A8 rfl B0) G6))
 intro h6
 rw [show orderTR h = (orderT h, true) by unfold orderTR; rw [if_pos (by simpa using h6)]]
 refine R4 ?_
 refine A4 rfl (B2 rfl Tryz.call49 rfl (Am8 _ n3) (A1 (A0 rfl) A7)) ?_
 refine R4 ?_
 exact U2 rfl D3 (B8 (A8 rfl B0) (B8 (A8 rfl B0) G6))
theorem Ax0 (h : List C2) (hs : ∀ d ∈ h, d.size ≤ 1048576) (hl : h.length ≤ 10) : B9 Tryz.prog 17 [AV.list 8 (h.map C2.cs)] (AV.tup [AV.bool (AG6 h).1, AV.bool (AG6 h).2]) := by
 refine B7 Tryz.func17 rfl Tryz.ntmps17 rfl ?_
 refine R9 ?_
 refine A4 rfl (B2 rfl Tryz.call44 rfl (AA2 _ n3) (A1 (A0 rfl) A7)) ?_
 refine R2 ?_
 refine A6 (A0 rfl) ?_ ?_
 ·intro h6
  rw [show AG6 h = (false, false) by unfold AG6; rw [if_neg (by simpa using h6)]]
  refine R6 ?_
  exact U2 rfl D3 (B8 (A8 rfl B0) (B8 (A8 rfl B0) G6))
 intro h6
 rw [show AG6 h = Al3 h (orderT h) by unfold AG6; rw [if_pos (by simpa using h6)]]
 refine R5 ?_
 refine A4 rfl (B2 rfl Tryz.call45 rfl (AJ5 _ n3) (A1 (A0 rfl) A7)) ?_
 refine A4 rfl (B2 rfl Tryz.call10 rfl (BP8 h (orderT h) hs qz8) (A1 (A0 rfl) (A1 (A0 rfl) A7))) ?_
 refine R6 ?_
 exact U2 rfl D3 (B8 (A8 rfl B0) (B8 (A8 rfl B0) G6))
theorem Bs8 (h : List C2) (n : Int) (hs : ∀ d ∈ h, d.size ≤ 1048576) (hl : h.length ≤ 10) : B9 Tryz.prog 15 [AV.list 8 (h.map C2.cs), AV.int n] (AV.tup [ints (AI5 h n).1, AV.bool (AI5 h n).2]) := by
 refine B7 Tryz.func15 rfl Tryz.ntmps15 rfl ?_
 refine R2 ?_
 refine A4 rfl (D6 rfl (O6 (sz := 1))) ?_
 refine R6 ?_
 refine A4 rfl (B2 rfl Tryz.call44 rfl (AA2 _ n3) (A1 (A0 rfl) A7)) ?_
 refine R6 ?_
 refine U1 rfl (fun hc => B2 rfl Tryz.call25 rfl (Bm5 _ _ _) (A1 (B1 rfl hc) (A1 D8 (A1 (B1 rfl hc) A7)))) ?_
 refine R5 ?_
 refine U1 rfl (fun hc => C7 rfl F8 J4 (B1 rfl hc) (B1 rfl hc) (P6 (by simp at hc; exact ⟨hc.2.1, by omega⟩)) qz5) ?_
 refine R5 ?_
 refine A6 (A0 rfl) ?_ ?_
 ·intro h33
  rw [Bw1 (BY9 _ _ _ (by rw [A5] at h33; exact h33))]
  refine R2 ?_
  refine A4 rfl (D6 rfl (O6 (sz := 1))) ?_
  refine R3 ?_
  exact U2 rfl D3 (B8 (A8 rfl B0) (B8 (A8 rfl B0) G6))
 intro h33
 obtain ⟨⟨hg, hw⟩, hyes⟩ := BZ0 _ _ _ h33
 rw [A5] at hw
 have hww : within n 0 ((h.length : Int) - 1) = true := hw
 have hn := BY8 (h := h) (n := n) hww
 have hn00 : 0 ≤ n := hn.1
 have hol9 := Aj8 h
 have hno : n ∈ orderT h := AZ9.2 ⟨hn, hyes⟩
 rw [Bm3 (by rw [hg, hww, hyes]; rfl)]
 have hbi : idxFrom (fun x => n == x) (orderT h) 0 = ((T3 (orderT h) n).length : Int) := (by rw [BK6 (n := n) (o := orderT h) 0 hno]; omega)
 have hbl := CE2 (orderT h) n
 have hgl : (deedAt h n).Got.length ≤ 1048576 := qz147
 refine R4 ?_
 refine A4 rfl (B2 rfl Tryz.call45 rfl (AJ5 _ n3) (A1 (A0 rfl) A7)) ?_
 refine R7 ?_
 refine A4 rfl (B2 rfl Tryz.call46 rfl (Al7 (orderT h) n) (A1 (A0 rfl) (A1 (A0 rfl) A7))) ?_
 refine A4 rfl (i6 rfl B4 B6 (A0 rfl) (A0 rfl) qz3 qz3) ?_
 refine R4 ?_
 rw [hbi, Int.toNat_natCast, Bs6]
 refine N3 rfl rfl rfl rfl B4 B6 ?_
 intro v41
 refine R7 ?_
 refine A4 rfl (C7 rfl F8 J4 (A0 rfl) (A0 rfl) (P6 hn) qz3) ?_
 refine R6 ?_
 refine AWP.le (C1 [0] rfl) ?_
 refine Q4 [(0, _), (4, _), (5, _), (6, _), (46, _), (47, _)] _ (fun (i : Nat) (v : Value) (rs : List Int) => i ≤ (deedAt h n).Got.length ∧ rs = ((deedAt h n).Got.take i).map fun g => m1 h (T3 (orderT h) n) g.Key) (fun (i : Nat) (v : Value) (rs : List Int) => [.arr v 3 1 (rs.map fun n => [AV.int n])]) (fun (i : Nat) (v : Value) (rs : List Int) => [(7, AV.is v), (48, AV.int i)]) (fun (i : Nat) (v : Value) (rs : List Int) => (deedAt h n).Got.length - i) (0) (v41) ([]) ?_ (H7 B0 ⟨rfl, rfl, rfl, rfl, rfl, rfl, rfl, rfl, trivial⟩) ?_
 ·exact ⟨Nat.zero_le _, rfl⟩
 intro i v rs hinv
 refine R5 ?_
 refine A6 (A0 rfl) ?_ ?_
 ·intro h49
  have k49 := of_decide_eq_true h49; try simp only [A5] at k49
  have hlt : i < (deedAt h n).Got.length := (by simpa using h49)
  obtain ⟨x, hx⟩ := get_some hlt
  have hinv0 := hinv
  have hrl : rs.length ≤ 1048576 := (by rw [hinv.2, A5, G9]; omega)
  refine R5 ?_
  refine A4 rfl (C7 rfl J3 N5 (A0 rfl) (A0 rfl) hx qz3) ?_
  refine R2 ?_
  intro b9
  refine R14 ?_
  refine J0 [(0, _), (4, _), (5, _), (6, _), (7, _), (9, _), (46, _), (47, _), (48, _), (49, _), (50, _), (51, _), (52, _), (53, _)] _ (fun (j : Nat) (acc : Int) => j ≤ (T3 (orderT h) n).length ∧ acc = m1 h ((T3 (orderT h) n).take j) x.Key) (fun (j : Nat) (acc : Int) => []) (fun (j : Nat) (acc : Int) => [(10, AV.int acc), (54, AV.int j)]) (fun (j : Nat) (acc : Int) => (T3 (orderT h) n).length - j) (0) (-1) ?_ (E7 ⟨rfl, rfl, rfl, rfl, rfl, rfl, rfl, rfl, rfl, rfl, rfl, rfl, rfl, rfl, rfl, rfl, trivial⟩) ?_
  ·exact ⟨Nat.zero_le _, rfl⟩
  intro j acc hinv
  refine R5 ?_
  refine A6 (A0 rfl) ?_ ?_
  ·intro h55
   have k55 := of_decide_eq_true h55; try simp only [A5] at k55
   have hltj : j < (T3 (orderT h) n).length := (by simpa using h55)
   obtain ⟨m, hm⟩ := get_some hltj
   have hmi : InH h m := Bm4 ((List.takeWhile_prefix (l := orderT h) (fun m => m != n)).sublist.subset (C4 hm))
   have hm00 : 0 ≤ m := hmi.1
   have hml : (deedAt h m).Writes.length ≤ 1048576 := (by have h9 := hs _ (C4 (P6 hmi)); unfold C2.size at h9; have h8 := L3 (f := A9.size) (l := (deedAt h m).Writes); omega)
   refine R5 ?_
   refine A4 rfl (C7 rfl B4 B6 (A0 rfl) (A0 rfl) hm qz3) ?_
   refine R7 ?_
   refine C3 rfl rfl (C7 rfl F8 J4 (A0 rfl) (A0 rfl) (P6 hmi) qz3) ?_
   refine R4 ?_
   refine C3 rfl rfl (B2 rfl Tryz.call47 rfl (AO9 _ _ qz8) (A1 (A0 rfl) (A1 (A0 rfl) A7))) ?_
   refine R10 ?_
   refine A6 (A0 rfl) ?_ ?_
   ·intro h69
    refine R8 ?_
    refine G4 j acc (j + 1) (m) ?_ ?_ (E7 ⟨rfl, rfl, rfl, rfl, rfl, rfl, rfl, rfl, rfl, rfl, rfl, rfl, rfl, rfl, rfl, rfl, trivial⟩)
    ·first | exact ⟨by omega, (Al0 hm Bc1).symm⟩ | exact ⟨by omega, by rw [Aa5 hm Bc1]; exact hinv.2⟩
    omega
   intro h69
   refine R5 ?_
   refine G4 j acc (j + 1) (acc) ?_ ?_ (E7 ⟨rfl, rfl, rfl, rfl, rfl, rfl, rfl, rfl, rfl, rfl, rfl, rfl, rfl, rfl, rfl, rfl, trivial⟩)
   ·first | exact ⟨by omega, (Al0 hm Bc1).symm⟩ | exact ⟨by omega, by rw [Aa5 hm Bc1]; exact hinv.2⟩
   omega
  intro h55
  have k55 := of_decide_eq_false h55; try simp only [A5] at k55
  have hje : j = (T3 (orderT h) n).length := (by have h9 : (T3 (orderT h) n).length ≤ j := (by simpa using h55); omega)
  have hacc : acc = m1 h (T3 (orderT h) n) x.Key := (by rw [hinv.2, hje, List.take_length])
  refine R5 ?_
  refine F6 (by' := 8) 1 rfl rfl rfl rfl B4 Tryz.type3 rfl rfl rfl rfl rfl rfl (A0 rfl) (A0 rfl) rfl BD8 ?_
  intro v75_1
  refine R6 ?_
  refine L7 i v rs (i + 1) (v75_1) (rs ++ [acc]) ?_ ?_ (Le.trans (C1 [0, 0] rfl) (E0 1 AL6 ⟨rfl, rfl, rfl, rfl, rfl, rfl, rfl, rfl, trivial⟩))
  ·exact ⟨by omega, by rw [List.take_add_one, hx, List.map_append, ← hinv0.2, hacc]; rfl⟩
  omega
 intro h49
 have k49 := of_decide_eq_false h49; try simp only [A5] at k49
 have hie : i = (deedAt h n).Got.length := (by have h9 : (deedAt h n).Got.length ≤ i := (by simpa using h49); omega)
 have hrs : rs = (deedAt h n).Got.map fun g => m1 h (T3 (orderT h) n) g.Key := (by rw [hinv.2, hie, List.take_length])
 rw [← hrs]
 refine R8 ?_
 refine AD1 0 4 rfl rfl ?_
 exact U2 rfl D3 (B8 (A8 rfl B0) (B8 (A8 rfl B0) G6))
theorem Bm6 (h : List C2) (n : Int) (hs : ∀ d ∈ h, d.size ≤ 1048576) (hl : h.length ≤ 10) : B9 Tryz.prog 16 [AV.list 8 (h.map C2.cs), AV.int n] (AV.tup [ints (AI5 h n).1, AV.bool (AI5 h n).2]) := by
 refine B7 Tryz.func16 rfl Tryz.ntmps16 rfl ?_
 refine R2 ?_
 refine A4 rfl (D6 rfl (O6 (sz := 1))) ?_
 refine R6 ?_
 refine A4 rfl (B2 rfl Tryz.call48 rfl (Ar3 _ n3) (A1 (A0 rfl) A7)) ?_
 refine R6 ?_
 refine U1 rfl (fun hc => B2 rfl Tryz.call30 rfl (CE4 _ _ _) (A1 (B1 rfl hc) (A1 D8 (A1 (B1 rfl hc) A7)))) ?_
 refine R5 ?_
 refine U1 rfl (fun hc => C7 rfl F8 J4 (B1 rfl hc) (B1 rfl hc) (P6 (by simp at hc; exact ⟨hc.2.1, by omega⟩)) qz5) ?_
 refine R5 ?_
 refine A6 (A0 rfl) ?_ ?_
 ·intro h30
  rw [Bw1 (BY9 _ _ _ (by rw [A5] at h30; exact h30))]
  refine R2 ?_
  refine A4 rfl (D6 rfl (O6 (sz := 1))) ?_
  refine R3 ?_
  exact U2 rfl D3 (B8 (A8 rfl B0) (B8 (A8 rfl B0) G6))
 intro h30
 obtain ⟨⟨hg, hw⟩, hyes⟩ := BZ0 _ _ _ h30
 rw [A5] at hw
 have hww : within n 0 ((h.length : Int) - 1) = true := hw
 have hn := BY8 (h := h) (n := n) hww
 have hn00 : 0 ≤ n := hn.1
 have hol9 := Aj8 h
 rw [Bm3 (by rw [hg, hww, hyes]; rfl)]
 have hgl : (deedAt h n).Got.length ≤ 1048576 := qz147
 refine R3 ?_
 refine P1 3 1 rfl rfl rfl rfl G8 ?_
 intro v6
 refine R6 ?_
 refine A4 rfl (C7 rfl F8 J4 (A0 rfl) (A0 rfl) (P6 hn) qz3) ?_
 refine R6 ?_
 refine AWP.le (C1 [0] rfl) ?_
 refine Q4 [(0, _), (1, _), (4, _), (5, _), (35, _), (36, _)] _ (fun (i : Nat) (v : Value) (rs : List Int) => i ≤ (deedAt h n).Got.length ∧ rs = ((deedAt h n).Got.take i).map fun g => m1 h (T3 (orderT h) n) g.Key) (fun (i : Nat) (v : Value) (rs : List Int) => [.arr v 3 1 (rs.map fun n => [AV.int n])]) (fun (i : Nat) (v : Value) (rs : List Int) => [(6, AV.is v), (37, AV.int i)]) (fun (i : Nat) (v : Value) (rs : List Int) => (deedAt h n).Got.length - i) (0) (v6) ([]) ?_ (H7 B0 ⟨rfl, rfl, rfl, rfl, rfl, rfl, rfl, rfl, trivial⟩) ?_
 ·exact ⟨Nat.zero_le _, rfl⟩
 intro i v rs hinv
 refine R5 ?_
 refine A6 (A0 rfl) ?_ ?_
 ·intro h38
  have k38 := of_decide_eq_true h38; try simp only [A5] at k38
  have hlt : i < (deedAt h n).Got.length := (by simpa using h38)
  obtain ⟨x, hx⟩ := get_some hlt
  have hinv0 := hinv
  have hrl : rs.length ≤ 1048576 := (by rw [hinv.2, A5, G9]; omega)
  refine R5 ?_
  refine A4 rfl (C7 rfl J3 N5 (A0 rfl) (A0 rfl) hx qz3) ?_
  refine R2 ?_
  intro b8
  refine R10 ?_
  refine A4 rfl (B2 rfl Tryz.call49 rfl (Am8 h qz8) (A1 (A0 rfl) A7)) ?_
  refine R4 ?_
  refine J0 [(0, _), (1, _), (4, _), (5, _), (6, _), (8, _), (35, _), (36, _), (37, _), (38, _), (39, _), (40, _), (41, _), (42, _), (43, _)] _ (fun (j : Nat) (acc : Int) => (j ≤ (orderT h).length ∧ ∀ y ∈ (orderT h).take j, y ≠ n) ∧ acc = m1 h ((orderT h).take j) x.Key) (fun (j : Nat) (acc : Int) => []) (fun (j : Nat) (acc : Int) => [(9, AV.int acc), (44, AV.int j)]) (fun (j : Nat) (acc : Int) => (orderT h).length - j) (0) (-1) ?_ (E7 ⟨rfl, rfl, rfl, rfl, rfl, rfl, rfl, rfl, rfl, rfl, rfl, rfl, rfl, rfl, rfl, rfl, rfl, trivial⟩) ?_
  ·exact ⟨⟨Nat.zero_le _, fun y hy => by rw [List.take_zero] at hy; cases hy⟩, rfl⟩
  intro j acc hinv
  refine R5 ?_
  refine A6 (A0 rfl) ?_ ?_
  ·intro h45
   have k45 := of_decide_eq_true h45; try simp only [A5] at k45
   have hltj : j < (orderT h).length := (by simpa using h45)
   obtain ⟨m, hm⟩ := get_some hltj
   have hmi : InH h m := Bm4 (C4 hm)
   have hm00 : 0 ≤ m := hmi.1
   refine R5 ?_
   refine A4 rfl (C7 rfl B4 B6 (A0 rfl) (A0 rfl) hm qz3) ?_
   refine R10 ?_
   refine A6 (A0 rfl) ?_ ?_
   ·intro h50
    have k50 := D1 h50; try simp only [A5] at k50
    have hmn : m = n := (by simpa using h50)
    have hacc : acc = m1 h (T3 (orderT h) n) x.Key := (by rw [CE3 hinv.1.2 (by rw [← hmn]; exact hm)]; exact hinv.2)
    refine R5 ?_
    refine F6 (by' := 8) 1 rfl rfl rfl rfl B4 Tryz.type3 rfl rfl rfl rfl rfl rfl (A0 rfl) (A0 rfl) rfl BD8 ?_
    intro v64_1
    refine R6 ?_
    refine L7 i v rs (i + 1) (v64_1) (rs ++ [acc]) ?_ ?_ (Le.trans (C1 [0, 0] rfl) (E0 1 AL6 ⟨rfl, rfl, rfl, rfl, rfl, rfl, rfl, rfl, trivial⟩))
    ·exact ⟨by omega, by rw [List.take_add_one, hx, List.map_append, ← hinv0.2, hacc]; rfl⟩
    omega
   intro h50
   have k50 := D5 h50; try simp only [A5] at k50
   have hne1 : ∀ y ∈ (orderT h).take (j + 1), y ≠ n := (by intro y hy; rw [List.take_add_one, hm, List.mem_append] at hy; rcases hy with hy | hy; (exact hinv.1.2 y hy); (have h9 : y = m := AQ0; rw [h9]; simpa using h50))
   refine R5 ?_
   refine C3 rfl rfl (C7 rfl F8 J4 (A0 rfl) (A0 rfl) (P6 hmi) qz3) ?_
   refine R4 ?_
   refine C3 rfl rfl (B2 rfl Tryz.call50 rfl (AN1 _ _) (A1 (A0 rfl) (A1 (A0 rfl) A7))) ?_
   refine R1 ?_
   refine A6 (A0 rfl) ?_ ?_
   ·intro h58
    refine R8 ?_
    refine G4 j acc (j + 1) (m) ?_ ?_ (E7 ⟨rfl, rfl, rfl, rfl, rfl, rfl, rfl, rfl, rfl, rfl, rfl, rfl, rfl, rfl, rfl, rfl, rfl, trivial⟩)
    ·first | exact ⟨⟨by omega, hne1⟩, (Al0 hm h58).symm⟩ | exact ⟨⟨by omega, hne1⟩, by rw [Aa5 hm h58]; exact hinv.2⟩
    omega
   intro h58
   refine R5 ?_
   refine G4 j acc (j + 1) (acc) ?_ ?_ (E7 ⟨rfl, rfl, rfl, rfl, rfl, rfl, rfl, rfl, rfl, rfl, rfl, rfl, rfl, rfl, rfl, rfl, rfl, trivial⟩)
   ·first | exact ⟨⟨by omega, hne1⟩, (Al0 hm h58).symm⟩ | exact ⟨⟨by omega, hne1⟩, by rw [Aa5 hm h58]; exact hinv.2⟩
   omega
  intro h45
  have k45 := of_decide_eq_false h45; try simp only [A5] at k45
  have hje : j = (orderT h).length := (by have h9 : (orderT h).length ≤ j := (by simpa using h45); omega)
  have hacc : acc = m1 h (T3 (orderT h) n) x.Key := (by have h9 := hinv.1.2; rw [hje, List.take_length] at h9; rw [Bs7 h9, hinv.2, hje, List.take_length])
  refine R5 ?_
  refine F6 (by' := 8) 1 rfl rfl rfl rfl B4 Tryz.type3 rfl rfl rfl rfl rfl rfl (A0 rfl) (A0 rfl) rfl BD8 ?_
  intro v64_2
  refine R6 ?_
  refine L7 i v rs (i + 1) (v64_2) (rs ++ [acc]) ?_ ?_ (Le.trans (C1 [0, 0] rfl) (E0 1 AL6 ⟨rfl, rfl, rfl, rfl, rfl, rfl, rfl, rfl, trivial⟩))
  ·exact ⟨by omega, by rw [List.take_add_one, hx, List.map_append, ← hinv0.2, hacc]; rfl⟩
  omega
 intro h38
 have k38 := of_decide_eq_false h38; try simp only [A5] at k38
 have hie : i = (deedAt h n).Got.length := (by have h9 : (deedAt h n).Got.length ≤ i := (by simpa using h38); omega)
 have hrs : rs = (deedAt h n).Got.map fun g => m1 h (T3 (orderT h) n) g.Key := (by rw [hinv.2, hie, List.take_length])
 rw [← hrs]
 refine R8 ?_
 refine AD1 0 4 rfl rfl ?_
 exact U2 rfl D3 (B8 (A8 rfl B0) (B8 (A8 rfl B0) G6))
end Go.Proofs.YtcfkbhnpfjjmjaaGreat
namespace Go.M
open Go.AV
theorem BK7 {h : List C2} {m : Int} (hm : m ∈ (orderTR h).1) : InH h m := by
  unfold orderTR at hm; split at hm
  · exact Bm4 hm
  · cases hm
theorem Bs9 (h : List C2) {k : Nat} {a b : Int} (h1 : 1 ≤ k) (ha : (orderTR h).1[k]? = some a) (hb : (orderTR h).1[k - 1]? = some b) : (deedAt h b).Time ≤ (deedAt h a).Time := by
  have hs : BD5 h (orderTR h).1 := by
    unfold orderTR; split
    · exact CH7 h
    · exact List.Pairwise.nil
  obtain ⟨ia, ea⟩ := List.getElem?_eq_some_iff.1 ha
  obtain ⟨ib, eb⟩ := List.getElem?_eq_some_iff.1 hb
  have := List.pairwise_iff_getElem.1 hs (k - 1) k ib ia qz8
  rw [ea, eb] at this; exact this
def metW (w : A9) (g : G5) : Bool := (w.Key == g.Key && w.Val == g.Val) && w.Gone != g.There
theorem met_yes {w : A9} {g : G5} (h1 : w.Key = g.Key) (h2 : w.Val = g.Val) (h3 : w.Gone = !g.There) : metW w g = true := by
  unfold metW; rw [h1, h2, h3]; cases g.There <;> simp
end Go.M
namespace Go.Proofs.YtcfkbhnpfjjmjaaGreat
open Go Go.AV Go.M
open Go.ChangeShapes Go.WideShapes Go.ChangeAt Go.RowKit
section
attribute [local irreducible] OpW OpA OpS AWP B9 J2 C9 OpE RetOk H0 I6 Le Ev F1 J8 V9 Int.tdiv IntKind.wrap
theorem quo19 {x : Int} (h0 : 0 ≤ x) (h1 : x < 20 ∨ x = 0) : 0 ≤ IntKind.i64.wrap (x.tdiv 19) ∧ IntKind.i64.wrap (x.tdiv 19) ≤ 1 := by
  have e : x.tdiv 19 = x / 19 := Int.tdiv_eq_ediv_of_nonneg h0
  have h : 0 ≤ x.tdiv 19 ∧ x.tdiv 19 ≤ 1 := by rw [e]; omega
  rw [AV8 ⟨by omega, by omega⟩]; exact h
theorem An0 (code : List Int) (hcode : Z2 code) : C9 Tryz.prog 51 [AN9 code] [] (fun x : List C2 => x.length ≤ 10 ∧ f0 x) (fun _ => []) (fun x => AV.list 8 (x.map C2.cs)) := by
  refine C6 Tryz.func51 rfl Tryz.ntmps51 rfl ?_
  refine R2 ?_
  refine A4 rfl (D6 rfl G8) ?_
  refine R6 ?_
  intro b6
  refine R5 ?_
  refine F0 [0] rfl rfl rfl rfl Tryz.call43 rfl (AS2 _ _ hcode ⟨0, 0⟩ D3) (A1 (A0 rfl) A7) rfl ?_
  intro x8 ok8
  refine R3 ?_
  exact I0 [] (x8.2) (ok8.2) rfl B0 (E4 rfl (A8 rfl B0))
theorem An1 (code : List Int) (hcode : Z2 code) : C9 Tryz.prog 18 [AN9 code] [] (fun x : List C2 => x.length ≤ 10 ∧ f0 x) (fun _ => []) (fun x => AV.list 8 (x.map C2.cs)) := by
  refine C6 Tryz.func18 rfl Tryz.ntmps18 rfl ?_
  refine R2 ?_
  refine A4 rfl (D6 rfl G8) ?_
  refine R4 ?_
  refine F0 [] rfl rfl rfl rfl Tryz.call51 rfl (An0 code hcode) (A1 (A0 rfl) A7) rfl ?_
  intro x4 ok4
  refine R3 ?_
  exact I0 [] (x4) (ok4) rfl B0 (E4 rfl (A8 rfl B0))
theorem BR0 (code : List Int) (hcode : Z2 code) : C9 Tryz.prog 14 [AN9 code] [] (fun x : List C2 × Int => x.1.length ≤ 10 ∧ f0 x.1) (fun _ => []) (fun x => AV.tup [AV.list 8 (x.1.map C2.cs), AV.int x.2]) := by
  refine C6 Tryz.func14 rfl Tryz.ntmps14 rfl ?_
  refine R2 ?_
  refine A4 rfl (D6 rfl G8) ?_
  refine R7 ?_
  intro b8
  refine R5 ?_
  refine F0 [0] rfl rfl rfl rfl Tryz.call43 rfl (AS2 _ _ hcode ⟨0, 0⟩ D3) (A1 (A0 rfl) A7) rfl ?_
  intro x10 ok10
  refine R9 ?_
  refine F0 [0] rfl rfl rfl rfl Tryz.call22 rfl (L0 _ _ hcode _ _ f6 (by have h9 := ok10.1; dsimp only at h9; omega)) (A1 (A0 rfl) (A1 (A0 rfl) A7)) rfl ?_
  intro x16 ok16
  refine R1 ?_
  refine F0 [0] rfl rfl rfl rfl Tryz.call22 rfl (L0 _ _ hcode _ _ qz8 (by have h9 := ok10.1; have h8 := ok16; dsimp only at h9; omega)) (A1 (A0 rfl) (A1 D8 A7)) rfl ?_
  intro x18 ok18
  refine A4 rfl (Bd0 rfl (A0 rfl) D8 qz3) ?_
  refine A4 rfl (Bd9 rfl (A0 rfl) (A0 rfl) (by have h9 := quo19 ok18.2.1 ok18.2.2; have h8 := ok16.2; have h7 := ok10.2.1; simp only [A5] at h8; omega)) ?_
  refine R4 ?_
  exact I0 [] ((x10.2, _)) (ok10.2) rfl B0 (U3 rfl D3 (B8 (A8 rfl B0) (B8 (A8 rfl B0) G6)))
theorem Bt0 (code : List Int) (hc : ∀ x ∈ code, (Lit.int .u8 x).wf = true) (more : List Int) (hm : ∀ x ∈ more, (Lit.int .u8 x).wf = true) : B9 Tryz.prog 4 [AN9 code, AN9 more] (AV.bool true) := by
 refine B7 Tryz.func4 rfl Tryz.ntmps4 rfl ?_
 refine R9 ?_
 refine A4 rfl (B2 rfl Tryz.call5 rfl (big_spec code more) (A1 (A0 rfl) (A1 (A0 rfl) A7))) ?_
 refine R1 ?_
 refine A6 (A0 rfl) ?_ ?_
 ·intro h27
  refine R5 ?_
  exact D4 rfl (A8 rfl B0)
 intro h27
 have hb0 : Z2 code := Bh8 hc
 have hb1 : Z2 more := Bh8 hm
 refine R4 ?_
 refine F0 [] rfl rfl rfl rfl Tryz.call14 rfl (BR0 code hb0) (A1 (A0 rfl) A7) rfl ?_
 intro x30 ok30
 obtain ⟨⟨h, n⟩, hx30⟩ : ∃ z, x30 = z := ⟨_, rfl⟩
 subst hx30
 obtain ⟨hhl, hdr⟩ := ok30
 dsimp only at hhl hdr ⊢
 have hds : ∀ d ∈ h, d.size ≤ 1048576 := fun d hd => Nat.le_trans (hdr.2 d hd) D3
 refine R10 ?_
 refine A4 rfl (B2 rfl Tryz.call15 rfl (Bs8 h n hds hhl) (A1 (A0 rfl) (A1 (A0 rfl) A7))) ?_
 refine R10 ?_
 refine A4 rfl (B2 rfl Tryz.call16 rfl (Bm6 h n hds hhl) (A1 (A0 rfl) (A1 (A0 rfl) A7))) ?_
 refine R11 ?_
 refine A4 rfl (Ad4 rfl V0 (A0 rfl) (A0 rfl)) ?_
 refine R3 ?_
 refine U1 rfl (fun hc => B2 rfl Tryz.call9 rfl (Am5 _ _) (A1 (B1 rfl hc) (A1 (B1 rfl hc) A7))) ?_
 refine R3 ?_
 refine A6 (A0 rfl) ?_ ?_
 ·intro h53
  exfalso; simp at h53
 intro h53
 refine R4 ?_
 refine A4 rfl (B2 rfl Tryz.call17 rfl (Ax0 h hds hhl) (A1 (A0 rfl) A7)) ?_
 refine R31 ?_
 refine L4 rfl (fun hc => C7 rfl F8 J4 (B1 rfl hc) (B1 rfl hc) (P6 (by simp only [Bool.and_eq_true, decide_eq_true_eq, A5] at hc; exact ⟨hc.1.2, hc.2⟩)) qz5) ?_
 refine R6 ?_
 refine awp_join [(1, _)] ⟨rfl, trivial⟩ ?_ ?_
 ·skip
  refine A6 (A0 rfl) ?_ ?_
  ·intro h86
   simp only [Bool.and_eq_true, decide_eq_true_eq, A5, beq_iff_eq] at h86
   obtain ⟨⟨⟨⟨⟨hk1, hk2⟩, hk3⟩, hn0⟩, hn1⟩, hlen⟩ := h86
   have hn : InH h n := ⟨hn0, hn1⟩
   have hst : AG6 h = (true, true) := Prod.ext hk3 hk2
   have hgl : (deedAt h n).Got.length ≤ 1048576 := (by have h9 := hds _ (C4 (P6 hn)); unfold C2.size at h9; have h8 := L3 (f := G5.size) (l := (deedAt h n).Got); omega)
   have hn00 : 0 ≤ n := hn.1
   refine R4 ?_
   refine A4 rfl (C7 rfl F8 J4 (A0 rfl) (A0 rfl) (P6 hn) qz3) ?_
   refine R6 ?_
   refine E2 [(1, _), (5, _), (7, _), (91, _), (92, _)] _ (fun (i : Nat) => i ≤ (deedAt h n).Got.length) (fun (i : Nat) => []) (fun (i : Nat) => [(93, AV.int i)]) (fun (i : Nat) => (deedAt h n).Got.length - i) (0) ?_ (E7 ⟨rfl, rfl, rfl, rfl, rfl, rfl, trivial⟩) ?_
   ·exact Nat.zero_le _
   intro i hinv
   refine R5 ?_
   refine A6 (A0 rfl) ?_ ?_
   ·intro h94
    have k94 := of_decide_eq_true h94; try simp only [A5] at k94
    have hlt : i < (deedAt h n).Got.length := (by simpa using h94)
    obtain ⟨g, hg⟩ := get_some hlt
    obtain ⟨m, hm⟩ := get_some (show i < (AI5 h n).1.length by omega)
    have hlaw := seen_law hst hk1 hg hm
    refine R6 ?_
    refine A4 rfl (C7 rfl J3 N5 (A0 rfl) (A0 rfl) hg qz3) ?_
    refine R2 ?_
    intro b14
    refine R7 ?_
    refine A4 rfl (C7 rfl B4 B6 (A0 rfl) (A0 rfl) hm qz3) ?_
    refine R19 ?_
    refine A6 (A0 rfl) ?_ ?_
    ·intro h113
     exfalso; simp at h113; rcases h113 with h9 | h9; (exact hlaw.1 h9); (have h8 := hlaw.2.1; omega)
    intro h113
    refine R7 ?_
    refine A6 (A0 rfl) ?_ ?_
    ·intro h115
     have k115 := of_decide_eq_true h115; try simp only [A5] at k115
     refine R5 ?_
     refine E9 i (i + 1) ?_ ?_ (O4 1 ⟨rfl, rfl, rfl, rfl, rfl, rfl, trivial⟩)
     ·exact qz8
     omega
    intro h115
    have k115 := of_decide_eq_false h115; try simp only [A5] at k115
    have hm0 : 0 ≤ m := (by simpa using h115)
    obtain ⟨w, hw, hwk, hwv, hwg⟩ := hlaw.2.2 hm0
    have hmi : InH h m := ⟨hm0, hlaw.2.1⟩
    have hwl : (deedAt h m).Writes.length ≤ 1048576 := (by have h9 := hds _ (C4 (P6 hmi)); unfold C2.size at h9; have h8 := L3 (f := A9.size) (l := (deedAt h m).Writes); omega)
    obtain ⟨q, hq⟩ := List.getElem?_of_mem hw
    refine R10 ?_
    refine A4 rfl (C7 rfl F8 J4 (A0 rfl) (A0 rfl) (P6 hmi) qz3) ?_
    refine R6 ?_
    refine J0 [(1, _), (5, _), (7, _), (13, _), (14, _), (15, _), (91, _), (92, _), (93, _), (94, _), (95, _), (96, _), (97, _), (98, _), (99, _), (100, _), (101, _), (102, _), (103, _), (104, _), (107, _), (108, _), (113, _), (114, _), (115, _), (116, _), (117, _), (118, _), (119, _), (120, _), (121, _)] _ (fun (j : Nat) (b : Bool) => j ≤ (deedAt h m).Writes.length ∧ (q < j → b = true)) (fun (j : Nat) (b : Bool) => []) (fun (j : Nat) (b : Bool) => [(16, AV.bool b), (122, AV.int j)]) (fun (j : Nat) (b : Bool) => (deedAt h m).Writes.length - j) (0) (false) ?_ (E7 ⟨rfl, rfl, rfl, rfl, rfl, rfl, rfl, rfl, rfl, rfl, rfl, rfl, rfl, rfl, rfl, rfl, rfl, rfl, rfl, rfl, rfl, rfl, rfl, rfl, rfl, rfl, rfl, rfl, rfl, rfl, rfl, rfl, rfl, trivial⟩) ?_
    ·exact ⟨Nat.zero_le _, fun h9 => absurd h9 (Nat.not_lt_zero _)⟩
    intro j b hinv
    refine R5 ?_
    refine A6 (A0 rfl) ?_ ?_
    ·intro h123
     have k123 := of_decide_eq_true h123; try simp only [A5] at k123
     have hltj : j < (deedAt h m).Writes.length := (by simpa using h123)
     obtain ⟨y, hy⟩ := get_some hltj
     refine R5 ?_
     refine A4 rfl (C7 rfl C0 E5 (A0 rfl) (A0 rfl) hy qz3) ?_
     refine R2 ?_
     intro b18
     refine R22 ?_
     refine c7 rfl rfl (U6 rfl rfl rfl) (fun hc => Ad4 rfl V0 (B1 rfl hc) (B1 rfl hc)) ?_
     refine R8 ?_
     refine G4 j b (j + 1) ((b || metW y g)) ?_ ?_ (O4 1 ⟨rfl, rfl, rfl, rfl, rfl, rfl, rfl, rfl, rfl, rfl, rfl, rfl, rfl, rfl, rfl, rfl, rfl, rfl, rfl, rfl, rfl, rfl, rfl, rfl, rfl, rfl, rfl, rfl, rfl, rfl, rfl, rfl, rfl, trivial⟩)
     ·exact ⟨by omega, fun h9 => by by_cases h8 : q < j; (rw [hinv.2 h8]; rfl); (obtain rfl : q = j := qz8; rw [hq] at hy; injection hy with hy; rw [← hy, met_yes hwk hwv hwg, Bool.or_true])⟩
     omega
    intro h123
    have k123 := of_decide_eq_false h123; try simp only [A5] at k123
    have hbt : b = true := hinv.2 (by have h9 : (deedAt h m).Writes.length ≤ j := (by simpa using h123); have h8 := (List.getElem?_eq_some_iff.1 hq).1; omega)
    refine R6 ?_
    refine A6 (A0 rfl) ?_ ?_
    ·intro h150
     exfalso; rw [hbt] at h150; cases h150
    intro h150
    refine R5 ?_
    refine E9 i (i + 1) ?_ ?_ (O4 1 ⟨rfl, rfl, rfl, rfl, rfl, rfl, trivial⟩)
    ·exact qz8
    omega
   intro h94
   have k94 := of_decide_eq_false h94; try simp only [A5] at k94
   refine R1 ?_
   exact Le.trans (C1 [] rfl) (E0 0 B0 ⟨rfl, trivial⟩)
  intro h86
  refine R1 ?_
  exact Le.trans (C1 [] rfl) (E0 0 B0 ⟨rfl, trivial⟩)
 refine R3 ?_
 refine F0 [] rfl rfl rfl rfl Tryz.call18 rfl (An1 more hb1) (A1 (A0 rfl) A7) rfl ?_
 intro x153 ok153
 generalize hx153 : x153 = e at ok153 ⊢
 obtain ⟨hel, hed⟩ := ok153
 have hes : ∀ d ∈ e, d.size ≤ 1048576 := fun d hd => Nat.le_trans (hed.2 d hd) D3
 refine R5 ?_
 refine A4 rfl (B2 rfl Tryz.call19 rfl (Aw8 e hes hel) (A1 (A0 rfl) A7)) ?_
 refine R9 ?_
 refine A4 rfl (B2 rfl Tryz.call20 rfl (Aw9 e hes qz8) (A1 (A0 rfl) A7)) ?_
 refine R11 ?_
 refine A4 rfl (Ad4 rfl V0 (A0 rfl) (A0 rfl)) ?_
 refine R3 ?_
 refine U1 rfl (fun hc => B2 rfl Tryz.call9 rfl (Am5 _ _) (A1 (B1 rfl hc) (A1 (B1 rfl hc) A7))) ?_
 refine R3 ?_
 refine A6 (A0 rfl) ?_ ?_
 ·intro h172
  exfalso; simp at h172
 intro h172
 refine R7 ?_
 refine E2 [(19, _), (20, _)] _ (fun (k : Nat) => 1 ≤ k) (fun (k : Nat) => []) (fun (k : Nat) => [(24, AV.int k)]) (fun (k : Nat) => (orderTR e).1.length - k) (1) ?_ (E7 ⟨rfl, rfl, rfl, trivial⟩) ?_
 ·exact Nat.le_refl _
 intro k hinv
 refine R8 ?_
 refine A6 (A0 rfl) ?_ ?_
 ·intro h176
  have k176 := of_decide_eq_true h176; try simp only [A5] at k176
  have hltk : k < (orderTR e).1.length := (by simpa using h176)
  have hotl : (orderTR e).1.length ≤ 10 := (by unfold orderTR; split; (have h9 := Aj8 e; dsimp only; omega); exact Nat.zero_le _)
  obtain ⟨a, ha⟩ := get_some hltk
  obtain ⟨b, hb⟩ := get_some (show k - 1 < (orderTR e).1.length by omega)
  have hai := BK7 (C4 ha)
  have hbi := BK7 (C4 hb)
  have hai0 : 0 ≤ a := hai.1
  have hbi0 : 0 ≤ b := hbi.1
  have hab := Bs9 e hinv ha hb
  refine R7 ?_
  refine C3 rfl rfl (C7 rfl B4 B6 (A0 rfl) (A0 rfl) ha qz3) ?_
  refine R5 ?_
  refine L2 rfl (S2 rfl rfl rfl) (fun hc => C7 rfl B4 B6 (B1 rfl hc) (B1 rfl hc) ha qz5) ?_
  refine R9 ?_
  refine L2 rfl (S2 rfl rfl rfl) (fun hc => C7 rfl B4 B6 (B1 rfl hc) (B1 rfl hc) hb qz5) ?_
  refine R7 ?_
  refine L2 rfl (S2 rfl rfl rfl) (fun hc => C7 rfl B4 B6 (B1 rfl hc) (B1 rfl hc) hb qz5) ?_
  refine R10 ?_
  refine L2 rfl (S2 rfl rfl rfl) (fun hc => C7 rfl B4 B6 (B1 rfl hc) (B1 rfl hc) hb qz5) ?_
  refine R1 ?_
  refine L2 rfl (S2 rfl rfl rfl) (fun hc => C7 rfl F8 J4 (B1 rfl hc) (B1 rfl hc) (P6 hbi) qz5) ?_
  refine R5 ?_
  refine L2 rfl (S2 rfl rfl rfl) (fun hc => C7 rfl B4 B6 (B1 rfl hc) (B1 rfl hc) ha qz5) ?_
  refine R1 ?_
  refine L2 rfl (S2 rfl rfl rfl) (fun hc => C7 rfl F8 J4 (B1 rfl hc) (B1 rfl hc) (P6 hai) qz5) ?_
  refine R5 ?_
  refine A6 (A0 rfl) ?_ ?_
  ·intro h230
   exfalso; have h1 := hai.1; have h2 := hai.2; have h3 := hbi.1; have h4 := hbi.2; simp at h230; omega
  intro h230
  refine R6 ?_
  refine E9 k (k + 1) ?_ ?_ (E7 ⟨rfl, rfl, rfl, trivial⟩)
  ·exact qz8
  omega
 intro h176
 have k176 := of_decide_eq_false h176; try simp only [A5] at k176
 refine R6 ?_
 exact D4 rfl (A8 rfl B0)
end
theorem Az7 : BL0 Tryz.prog 22 (List Int) (fun l => [AN9 l]) (fun l => ∀ x ∈ l, (Lit.int .u8 x).wf = true) := Bn3 (sz := 1) d8 F2 (CE9 Tryz.underlying5) (fun _ => rfl)
set_option maxRecDepth 100000 in
theorem fnSeen_lifted (os : Os) (started : os.Started) (H : Type) (enc : TypeId × Value → H) :
    ReturnsInHanded {} Tryz.checked os 4 .any (Rows.fnSeenSpec.pre6 enc Tryz.prog Tryz.f4 Rows.fnSeenRow.domain false) (Rows.fnSeenSpec.post enc Tryz.prog Tryz.f4 false true false false) := by
  refine returnsInHanded_of_change (C := Tryz.checked) F2 started F2 Tryz.func4
    (ChangeSpec.witness6 (enc := enc) (C := Tryz.checked) false ⟨#[], #[.slice none 0 0, .slice none 0 0], []⟩ 8 F2 F2 F2 F2) ?_
  intro W base args ds gs before hval0 hW hcnd _
  have hval : ∀ (j : Nat) t v, Tryz.f4.params[j]? = some t → args[j]? = some v → Value.okWide Tryz.prog W .any base t v := hval0
  have hW2 := hW
  obtain ⟨p, q, hA0, hV, rfl, hfz, hnd⟩ := hW
  have hA : DataW.TrodAll enc Tryz.prog W 0 (fun _ => true) true Tryz.f4.params.toList args.toList ds p := hA0
  rw [Tryz.params4] at hA hval
  obtain ⟨v0, vs0, d0, ds0, p0, q0, hargs, rfl, rfl, h0, r0⟩ := trodAll_cons hA
  obtain ⟨v1, vs1, d1, ds1, p1, q1, rfl, rfl, rfl, h1, r1⟩ := trodAll_cons r0
  obtain ⟨rfl, rfl, rfl⟩ := trodAll_nil r1
  obtain rfl : args = #[v0, v1] := by cases args; simp_all
  obtain ⟨rfl, rfl⟩ := trodVars_none hV
  have lt0 : ∀ x ∈ p0, x.block < W.heap.size := by obtain ⟨m, hm⟩ := h0; exact DataW.trod_lt m _ _ _ hm
  obtain ⟨a0, w0, g0⟩ := Bt5 (Az7) (by obtain ⟨y1, y2, y3, rfl⟩ := okWide_slice d8 (hval 0 22 v0 rfl rfl); rfl) h0
  have lt1 : ∀ x ∈ p1, x.block < W.heap.size := by obtain ⟨m, hm⟩ := h1; exact DataW.trod_lt m _ _ _ hm
  obtain ⟨a1, w1, g1⟩ := Bt5 (Az7) (by obtain ⟨y1, y2, y3, rfl⟩ := okWide_slice d8 (hval 1 22 v1 rfl rfl); rfl) h1
  have hcall := CF0 (Bt0 a0 w0 a1 w1) (Y3.cons g0 (Y3.cons g1 (Y3.nil _)))
  clear hA0 hval0
  refine Calls.mono hcall fun e W2 ⟨he, bel⟩ => ?_
  subst he
  exact ⟨_, rfl, _, _, _, [], _, [], hW2, trodAll_mk1 (shut_bool V0 _), (trodAll_cons_mk (Below.trod (by kernel_rfl : laidOutB Tryz.prog = true) F2 (of_decide_eq_true F2) h0 bel lt0) (trodAll_cons_mk (Below.trod (by kernel_rfl : laidOutB Tryz.prog = true) F2 (of_decide_eq_true F2) h1 bel lt1) trodAll_mk0)), rfl, bel.frame _, fun h => by cases h⟩
theorem CE5 {a b : Bool} (h : a = true) (k : b = true) : (a && b) = true := by rw [h, k]; rfl
set_option maxRecDepth 100000 in
theorem Bm7 : joinedFacts Tryz.pinned.checked.prog 4 Tryz.f4 Rows.fnSeenSpec Rows.fnSeenRow = true := by
  unfold joinedFacts
  iterate 18 (rw [Bool.and_assoc])
  refine CE5 ?_ ?_
  · as_aux_lemma => kernel_rfl
  · as_aux_lemma => kernel_rfl
theorem fnSeen_proved : Rows.FnSeenSaid :=
  OpenClaim.holds_of_wide 4 Tryz.f4 rfl rfl rfl rfl rfl rfl rfl ⟨rfl, rfl, rfl, rfl, rfl⟩ rfl rfl rfl rfl rfl F2 Tryz.func4 Bm7
    (of_decide_eq_true F2) (by unfold Func.isWrapper; first | (rw [if_pos (by decide +kernel)]; kernel_rfl) | (rw [if_neg (by decide +kernel)]; exact ⟨rfl, rfl⟩))
    (fun os started H enc _ => fnSeen_lifted os started H enc)
end Go.Proofs.YtcfkbhnpfjjmjaaGreat
