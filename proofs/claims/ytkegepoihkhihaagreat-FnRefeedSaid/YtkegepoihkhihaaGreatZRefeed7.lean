/- FnRefeed: for every drawn history, a feeder that restarts from an earlier time receives the same items again and all items after them. No condition. -/
import Derived.Test.YtkegepoihkhihaaGreatZRefeed6

set_option linter.unusedVariables false
set_option linter.unusedSimpArgs false
set_option maxRecDepth 100000
set_option maxHeartbeats 2000000
namespace Go.M
open Go.AV
theorem d9 {α : Type} {p : α → Bool} {l : List α} {i : Nat} {x : α} (h : l[i]? = some x) : (l.take (i + 1)).filter p = (l.take i).filter p ++ (if p x = true then [x] else []) := by
  rw [List.take_add_one, h, List.filter_append]
  cases hp : p x <;> simp [hp]
theorem raw_take {l : List TCell} {i : Nat} {c : TCell} {g a u : Int} (h : l[i]? = some c) : rawItems (l.take (i + 1)) g a u = rawItems (l.take i) g a u ++ cellItems g a u c := by
  unfold rawItems; rw [List.take_add_one, h, List.map_append, List.flatten_append]; simp
def partItems (l : List TCell) (i : Nat) (c : TCell) (j : Nat) (g a u : Int) : List TFeedItem := rawItems (l.take i) g a u ++ ((c.Vers.take j).filter (inTime a u)).map (itemOf g c.Key)
theorem AN4 (l : List TCell) (i : Nat) (c : TCell) (g a u : Int) : partItems l i c 0 g a u = rawItems (l.take i) g a u := by unfold partItems; simp
theorem Ag2 {l : List TCell} {i : Nat} {c : TCell} {g a u : Int} {j : Nat} (h : l[i]? = some c) (hj : c.Vers.length ≤ j) : partItems l i c j g a u = rawItems (l.take (i + 1)) g a u := by
  unfold partItems; rw [raw_take h, List.take_of_length_le hj]; rfl
theorem AI8 {l : List TCell} {i : Nat} {c : TCell} {g a u : Int} {j : Nat} {v : TVer} (h : c.Vers[j]? = some v) (hp : inTime a u v = true) : partItems l i c (j + 1) g a u = partItems l i c j g a u ++ [itemOf g c.Key v] := by
  unfold partItems; rw [d9 h, if_pos hp, List.map_append, List.append_assoc]; rfl
theorem AO8 {l : List TCell} {i : Nat} {c : TCell} {g a u : Int} {j : Nat} {v : TVer} (h : c.Vers[j]? = some v) (hp : inTime a u v = false) : partItems l i c (j + 1) g a u = partItems l i c j g a u := by
  unfold partItems; rw [d9 h, if_neg (by rw [hp]; decide), List.append_nil]
theorem AT8 {l : List TCell} (h : goodCells l = true) {i : Nat} {c : TCell} {g a u : Int} {j : Nat} (hj : j ≤ 16) : (partItems l i c j g a u).length ≤ 1000 := by
  obtain ⟨f1, f2, f3⟩ := U0 h
  have h1 := AO7 (l := l.take i) (g := g) (a := a) (u := u) fun c hc => (f3 c (List.mem_of_mem_take hc)).2.2.1
  have h2 : ((c.Vers.take j).filter (inTime a u)).length ≤ j := Nat.le_trans (List.length_filter_le _ _) (List.length_take_le _ _)
  have h3 : (l.take i).length ≤ l.length := List.length_take_le' _ _
  unfold partItems
  rw [I5, A8]; omega
theorem AX7 {o l : List TFeedItem} {x : TFeedItem} : M.insAll o (l ++ [x]) = (putR (M.insAll o l) x).1 := by unfold M.insAll; rw [List.foldl_append]; rfl
theorem AR3 : ∀ {l o : List TFeedItem}, (M.insAll o l).length ≤ o.length + l.length
  | [], o => Nat.le_refl _
  | x :: l, o => by
    have h1 := AR3 (l := l) (o := (putR o x).1)
    have h2 := AI6 x o
    show (M.insAll (putR o x).1 l).length ≤ _
    rw [J3]; omega
end Go.M
namespace Go.Proofs.YtkegepoihkhihaaGreat
open Go Go.AV Go.M
attribute [local irreducible] OpW OpA OpS AWP FSpec ESpec GSpec OpE RetOk RetOkG RvDen Le Ev GuardIs SrcIs SrcE Int.tmod IntKind.wrap bandI
theorem Ar3 (s : TState) (g a u : Int) (hg : goodCells s.Cells = true) : GSpec Tryz.prog 53 [AV.agg s.cs, AV.int g, AV.int a, AV.int u] [] (fun _ : Value => True) (fun v => [.arr v 63 5 ((feedIn s.Cells g a u).map TFeedItem.cs)]) (fun v => AV.is v) := by
 obtain ⟨f1, f2, f3⟩ := U0 hg
 refine J9 Tryz.func53 rfl Tryz.ntmps53 rfl ?_
 refine A3 (A2 ?_)
 refine N8 rfl rfl rfl rfl (A0 rfl) ?_
 intro b4
 refine A1 rfl (B7 rfl O7) ?_
 refine A4 (A3 (A2 ?_))
 refine R7 rfl rfl rfl rfl F3 H9 ?_
 intro v14
 refine B5 rfl ?_
 refine A4 (A3 (A3 (A2 ?_)))
 refine A1 rfl (B1 1 rfl C0 rfl N9 (A0 rfl) rfl) ?_
 refine A1 rfl (B0 1 rfl (A0 rfl) rfl Q1 rfl) ?_
 refine A1 rfl (G9 rfl E9 (A0 rfl)) ?_
 refine A1 rfl (C1 rfl B6) ?_
 refine A4 (C8 ?_)
 refine AWP.le (H4 [0] rfl) ?_
 refine Q0 [(1, _), (2, _), (3, _), (8, _), (16, _), (17, _)] _ (fun (i : Nat) (v : Value) => i ≤ s.Cells.length) (fun (i : Nat) (v : Value) => [.arr v 63 5 ((rawItems (s.Cells.take i) g a u).map TFeedItem.cs)]) (fun (i : Nat) (v : Value) => [(9, AV.is v), (18, AV.int i)]) (fun (i : Nat) (v : Value) => s.Cells.length - i) (0) (v14) ?_ (P8 (by rfl) ⟨rfl, rfl, rfl, rfl, rfl, rfl, rfl, rfl, trivial⟩) ?_
 ·exact Nat.zero_le _
 intro i v hinv
 refine A3 (A2 ?_)
 refine A1 rfl (J6 rfl (A0 rfl) (A0 rfl)) ?_
 refine A4 (A3 ?_)
 refine C4 (A0 rfl) ?_ ?_
 ·intro h19
  have k19 := of_decide_eq_true h19; try simp only [A8] at k19
  have hlt : i < s.Cells.length := by (simpa using h19)
  obtain ⟨c, hx⟩ := get_some hlt
  have hcf := f3 c (G4 hx)
  refine C7 (A3 (C8 (A3 (A2 ?_))))
  refine A1 rfl (I9 rfl E9 G0 (A0 rfl) (A0 rfl) hx (by first | omega | (simp only [D3, A9, szR] at *; omega))) ?_
  refine A1 rfl (K6 rfl (A0 rfl) U6 G0) ?_
  refine F9 rfl rfl rfl rfl Tryz.zeroValue125 rfl ?_
  intro b11
  refine D6 0 rfl rfl rfl (A0 rfl) (A0 rfl) (E7 _) rfl G0 rfl ?_
  refine A4 (A3 (A2 ?_))
  refine A1 rfl (B1 1 rfl G7 rfl P0 (A0 rfl) rfl) ?_
  refine A1 rfl (B0 0 rfl (A0 rfl) rfl R8 rfl) ?_
  refine A1 rfl (G9 rfl K1 (A0 rfl)) ?_
  refine A1 rfl (C1 rfl B6) ?_
  refine A4 (C8 ?_)
  refine AWP.le (H4 [1, 0] rfl) ?_
  refine Q0 [(1, _), (2, _), (3, _), (8, _), (11, _), (16, _), (17, _), (18, _), (19, _), (20, _), (21, _), (22, _), (23, _), (24, _)] _ (fun (j : Nat) (w : Value) => j ≤ c.Vers.length) (fun (j : Nat) (w : Value) => [.arr w 63 5 ((partItems s.Cells i c j g a u).map TFeedItem.cs), .box b11 125 c.cs]) (fun (j : Nat) (w : Value) => [(9, AV.is w), (25, AV.int j)]) (fun (j : Nat) (w : Value) => c.Vers.length - j) (0) (v) ?_ (P8 (by (rw [AN4]; rfl)) ⟨rfl, rfl, rfl, rfl, rfl, rfl, rfl, rfl, rfl, rfl, rfl, rfl, rfl, rfl, rfl, rfl, trivial⟩) ?_
  ·exact Nat.zero_le _
  intro j w hinv
  refine A3 (A2 ?_)
  refine A1 rfl (J6 rfl (A0 rfl) (A0 rfl)) ?_
  refine A4 (A3 ?_)
  refine C4 (A0 rfl) ?_ ?_
  ·intro h26
   have k26 := of_decide_eq_true h26; try simp only [A8] at k26
   have hlt1 : j < c.Vers.length := by (simpa using h26)
   obtain ⟨y, hy⟩ := get_some hlt1
   have hpl := AT8 hg (i := i) (c := c) (g := g) (a := a) (u := u) (j := j) (by omega)
   refine C7 (A3 (C8 (A3 (A2 ?_))))
   refine A1 rfl (I9 rfl K1 N0 (A0 rfl) (A0 rfl) hy (by first | omega | (simp only [D3, A9, szR] at *; omega))) ?_
   refine A1 rfl (K6 rfl (A0 rfl) e6 N0) ?_
   refine F9 rfl rfl rfl rfl Tryz.zeroValue127 rfl ?_
   intro b13
   refine D6 0 rfl rfl rfl (A0 rfl) (A0 rfl) (E7 _) rfl N0 rfl ?_
   refine A4 (A3 (A2 ?_))
   refine A1 rfl (B1 0 rfl L2 rfl B3 (A0 rfl) rfl) ?_
   refine A1 rfl (B0 0 rfl (A0 rfl) rfl B9 rfl) ?_
   refine A5 rfl ?_
   refine A1 rfl (O5 rfl (A0 rfl) (A0 rfl)) ?_
   refine A5 rfl ?_
   refine C9 rfl (fun hc => B1 0 rfl L2 rfl B3 (A0 rfl) rfl) ?_
   refine C9 rfl (fun hc => B0 0 rfl (A6 rfl hc) rfl B9 rfl) ?_
   refine C9 rfl (fun hc => C1 rfl (A0 rfl)) ?_
   refine C9 rfl (fun hc => U7 rfl (A6 rfl hc) (A6 rfl hc)) ?_
   refine A1 rfl (H6 rfl (A0 rfl) (F6 rfl)) ?_
   refine A4 ?_
   refine C4 (A0 rfl) ?_ ?_
   ·intro h38
    refine A2 ?_
    refine A5 rfl ?_
    refine A1 rfl (B1 0 rfl L2 rfl B3 (A0 rfl) rfl) ?_
    refine A1 rfl (B0 0 rfl (A0 rfl) rfl B9 rfl) ?_
    refine A5 rfl ?_
    refine A1 rfl (B1 0 rfl G7 rfl E8 (A0 rfl) rfl) ?_
    refine A1 rfl (B0 2 rfl (A0 rfl) rfl G5 rfl) ?_
    refine A1 rfl (B1 1 rfl L2 rfl E8 (A0 rfl) rfl) ?_
    refine A1 rfl (B0 0 rfl (A0 rfl) rfl G5 rfl) ?_
    refine A1 rfl (B1 2 rfl L2 rfl J8 (A0 rfl) rfl) ?_
    refine A1 rfl (B0 0 rfl (A0 rfl) rfl L8 rfl) ?_
    refine A1 rfl (O0 (places := #[(0, 1), (1, 1), (2, 1), (3, 1), (4, 1)]) rfl K7 Tryz.zeroValue63 (fun w => by kernel_rfl) rfl (D9 (A0 rfl) (K5 _ _) (D9 (A0 rfl) (K5 _ _) (D9 (A0 rfl) (P2 _) (D9 (A0 rfl) (P2 _) (D9 (A0 rfl) (Y6 _) H7))))) rfl) ?_
    refine A1 rfl (L0 rfl F3 H9 Tryz.zeroValue63 rfl rfl rfl rfl (D9 (A0 rfl) (E7 _) H7) rfl rfl) ?_
    refine M0 (by' := 56) 1 rfl rfl rfl rfl F3 Tryz.type63 rfl rfl rfl rfl rfl rfl (A0 rfl) (A0 rfl) rfl (by simp only [A8, A9]; omega) ?_
    intro v51_1
    refine B5 rfl ?_
    refine A4 (A2 ?_)
    refine A1 rfl (G8 rfl (A0 rfl) B6 (by first | omega | (simp only [D3, A9, szR] at *; omega))) ?_
    refine A5 rfl ?_
    refine A4 ?_
    refine O4 j w (j + 1) (v51_1) ?_ ?_ (Le.trans (H4 [0, 0, 0] rfl) (L7 1 (by first | (rw [AI8 hy h38, List.map_append]; rfl) | (rw [AO8 hy h38]; rfl)) ⟨rfl, rfl, rfl, rfl, rfl, rfl, rfl, rfl, rfl, rfl, rfl, rfl, rfl, rfl, rfl, rfl, trivial⟩))
    ·exact (by omega)
    omega
   intro h38
   refine C7 (A2 ?_)
   refine A1 rfl (G8 rfl (A0 rfl) B6 (by first | omega | (simp only [D3, A9, szR] at *; omega))) ?_
   refine A5 rfl ?_
   refine A4 ?_
   refine O4 j w (j + 1) (w) ?_ ?_ (Le.trans (H4 [0, 0, 0] rfl) (L7 1 (by first | (rw [AI8 hy h38, List.map_append]; rfl) | (rw [AO8 hy h38]; rfl)) ⟨rfl, rfl, rfl, rfl, rfl, rfl, rfl, rfl, rfl, rfl, rfl, rfl, rfl, rfl, rfl, rfl, trivial⟩))
   ·exact (by omega)
   omega
  intro h26
  have k26 := of_decide_eq_false h26; try simp only [A8] at k26
  have hge1 : c.Vers.length ≤ j := by (simpa using h26)
  refine G6 ?_
  refine A2 ?_
  refine A1 rfl (G8 rfl (A0 rfl) B6 (by first | omega | (simp only [D3, A9, szR] at *; omega))) ?_
  refine A5 rfl ?_
  refine A4 ?_
  refine O4 i v (i + 1) (w) ?_ ?_ (Le.trans (H4 [1, 0] rfl) (L7 1 (by (rw [Ag2 hx hge1]; rfl)) ⟨rfl, rfl, rfl, rfl, rfl, rfl, rfl, rfl, trivial⟩))
  ·exact (by omega)
  omega
 intro h19
 have k19 := of_decide_eq_false h19; try simp only [A8] at k19
 have hge : s.Cells.length ≤ i := by (simpa using h19)
 rw [List.take_of_length_le hge]
 refine G6 ?_
 refine A3 (A2 ?_)
 refine A5 rfl ?_
 refine AC8 [0] rfl rfl rfl rfl Tryz.call63 rfl (AF9 v (rawItems s.Cells g a u) (by have h9 := AT8 hg (i := s.Cells.length) (c := ⟨[], []⟩) (g := g) (a := a) (u := u) (j := 0) (by omega); rw [AN4, List.take_of_length_le (Nat.le_refl _)] at h9; omega)) rfl (Q4 (evb (A0 rfl)) (Q4 (evb Ar8) X3)) (by first | exact K3 | (intro _; exact K3) | (intro _; first | exact E6 _ | exact D5 _ _ | exact D0 _ | exact D8 _ | exact D7) | (intro _; refine Y7 ?_; (repeat (first | exact D1 | (refine B8 (by first | (first | exact E6 _ | exact D5 _ _ | exact D0 _ | exact D8 _ | exact D7) | (refine S5 ?_; (repeat (first | exact D1 | (refine B8 (by first | exact E6 _ | exact D5 _ _ | exact D0 _ | exact D8 _ | exact D7) ?_))))) ?_))); done) | (intro _; refine S5 ?_; (repeat (first | exact D1 | (refine B8 (by first | exact E6 _ | exact D5 _ _ | exact D0 _ | exact D8 _ | exact D7) ?_))); done) | ((repeat (first | exact K3 | (refine J2 (Q5 ?_) ?_; (repeat (first | exact D1 | (refine B8 (by first | exact E6 _ | exact D5 _ _ | exact D0 _ | exact D8 _ | exact D7) ?_)))) | (refine J2 (Q6 ?_) ?_; (repeat (first | exact Q7 | (refine Q9 (fun _ => ?_); (first | exact TWrite.flat _ | exact TFeedItem.flat _ | exact TIdx.flat _ | exact TVer.flat _ | (repeat (first | exact D1 | (refine B8 (by first | exact E6 _ | exact D5 _ _ | exact D0 _ | exact D8 _ | exact D7) ?_))))) | (refine R4 ?_; (first | exact TWrite.flat _ | exact TFeedItem.flat _ | exact TIdx.flat _ | exact TVer.flat _ | (repeat (first | exact D1 | (refine B8 (by first | exact E6 _ | exact D5 _ _ | exact D0 _ | exact D8 _ | exact D7) ?_))))) | (refine P9 ?_ ?_; (first | exact TWrite.flat _ | exact TFeedItem.flat _ | exact TIdx.flat _ | exact TVer.flat _ | (repeat (first | exact D1 | (refine B8 (by first | exact E6 _ | exact D5 _ _ | exact D0 _ | exact D8 _ | exact D7) ?_))))) | refine Q8 ?_ ?_))))); done) | (intro _; (repeat (first | exact K3 | (refine J2 (Q5 ?_) ?_; (repeat (first | exact D1 | (refine B8 (by first | exact E6 _ | exact D5 _ _ | exact D0 _ | exact D8 _ | exact D7) ?_)))) | (refine J2 (Q6 ?_) ?_; (repeat (first | exact Q7 | (refine Q9 (fun _ => ?_); (first | exact TWrite.flat _ | exact TFeedItem.flat _ | exact TIdx.flat _ | exact TVer.flat _ | (repeat (first | exact D1 | (refine B8 (by first | exact E6 _ | exact D5 _ _ | exact D0 _ | exact D8 _ | exact D7) ?_))))) | (refine R4 ?_; (first | exact TWrite.flat _ | exact TFeedItem.flat _ | exact TIdx.flat _ | exact TVer.flat _ | (repeat (first | exact D1 | (refine B8 (by first | exact E6 _ | exact D5 _ _ | exact D0 _ | exact D8 _ | exact D7) ?_))))) | (refine P9 ?_ ?_; (first | exact TWrite.flat _ | exact TFeedItem.flat _ | exact TIdx.flat _ | exact TVer.flat _ | (repeat (first | exact D1 | (refine B8 (by first | exact E6 _ | exact D5 _ _ | exact D0 _ | exact D8 _ | exact D7) ?_))))) | refine Q8 ?_ ?_))))); done)) (by first | exact K3 | (intro _; exact K3) | (intro _; first | exact E6 _ | exact D5 _ _ | exact D0 _ | exact D8 _ | exact D7) | (intro _; refine Y7 ?_; (repeat (first | exact D1 | (refine B8 (by first | (first | exact E6 _ | exact D5 _ _ | exact D0 _ | exact D8 _ | exact D7) | (refine S5 ?_; (repeat (first | exact D1 | (refine B8 (by first | exact E6 _ | exact D5 _ _ | exact D0 _ | exact D8 _ | exact D7) ?_))))) ?_))); done) | (intro _; refine S5 ?_; (repeat (first | exact D1 | (refine B8 (by first | exact E6 _ | exact D5 _ _ | exact D0 _ | exact D8 _ | exact D7) ?_))); done) | ((repeat (first | exact K3 | (refine J2 (Q5 ?_) ?_; (repeat (first | exact D1 | (refine B8 (by first | exact E6 _ | exact D5 _ _ | exact D0 _ | exact D8 _ | exact D7) ?_)))) | (refine J2 (Q6 ?_) ?_; (repeat (first | exact Q7 | (refine Q9 (fun _ => ?_); (first | exact TWrite.flat _ | exact TFeedItem.flat _ | exact TIdx.flat _ | exact TVer.flat _ | (repeat (first | exact D1 | (refine B8 (by first | exact E6 _ | exact D5 _ _ | exact D0 _ | exact D8 _ | exact D7) ?_))))) | (refine R4 ?_; (first | exact TWrite.flat _ | exact TFeedItem.flat _ | exact TIdx.flat _ | exact TVer.flat _ | (repeat (first | exact D1 | (refine B8 (by first | exact E6 _ | exact D5 _ _ | exact D0 _ | exact D8 _ | exact D7) ?_))))) | (refine P9 ?_ ?_; (first | exact TWrite.flat _ | exact TFeedItem.flat _ | exact TIdx.flat _ | exact TVer.flat _ | (repeat (first | exact D1 | (refine B8 (by first | exact E6 _ | exact D5 _ _ | exact D0 _ | exact D8 _ | exact D7) ?_))))) | refine Q8 ?_ ?_))))); done) | (intro _; (repeat (first | exact K3 | (refine J2 (Q5 ?_) ?_; (repeat (first | exact D1 | (refine B8 (by first | exact E6 _ | exact D5 _ _ | exact D0 _ | exact D8 _ | exact D7) ?_)))) | (refine J2 (Q6 ?_) ?_; (repeat (first | exact Q7 | (refine Q9 (fun _ => ?_); (first | exact TWrite.flat _ | exact TFeedItem.flat _ | exact TIdx.flat _ | exact TVer.flat _ | (repeat (first | exact D1 | (refine B8 (by first | exact E6 _ | exact D5 _ _ | exact D0 _ | exact D8 _ | exact D7) ?_))))) | (refine R4 ?_; (first | exact TWrite.flat _ | exact TFeedItem.flat _ | exact TIdx.flat _ | exact TVer.flat _ | (repeat (first | exact D1 | (refine B8 (by first | exact E6 _ | exact D5 _ _ | exact D0 _ | exact D8 _ | exact D7) ?_))))) | (refine P9 ?_ ?_; (first | exact TWrite.flat _ | exact TFeedItem.flat _ | exact TIdx.flat _ | exact TVer.flat _ | (repeat (first | exact D1 | (refine B8 (by first | exact E6 _ | exact D5 _ _ | exact D0 _ | exact D8 _ | exact D7) ?_))))) | refine Q8 ?_ ?_))))); done)) (by first | exact K3 | (intro _; exact K3) | (intro _; first | exact E6 _ | exact D5 _ _ | exact D0 _ | exact D8 _ | exact D7) | (intro _; refine Y7 ?_; (repeat (first | exact D1 | (refine B8 (by first | (first | exact E6 _ | exact D5 _ _ | exact D0 _ | exact D8 _ | exact D7) | (refine S5 ?_; (repeat (first | exact D1 | (refine B8 (by first | exact E6 _ | exact D5 _ _ | exact D0 _ | exact D8 _ | exact D7) ?_))))) ?_))); done) | (intro _; refine S5 ?_; (repeat (first | exact D1 | (refine B8 (by first | exact E6 _ | exact D5 _ _ | exact D0 _ | exact D8 _ | exact D7) ?_))); done) | ((repeat (first | exact K3 | (refine J2 (Q5 ?_) ?_; (repeat (first | exact D1 | (refine B8 (by first | exact E6 _ | exact D5 _ _ | exact D0 _ | exact D8 _ | exact D7) ?_)))) | (refine J2 (Q6 ?_) ?_; (repeat (first | exact Q7 | (refine Q9 (fun _ => ?_); (first | exact TWrite.flat _ | exact TFeedItem.flat _ | exact TIdx.flat _ | exact TVer.flat _ | (repeat (first | exact D1 | (refine B8 (by first | exact E6 _ | exact D5 _ _ | exact D0 _ | exact D8 _ | exact D7) ?_))))) | (refine R4 ?_; (first | exact TWrite.flat _ | exact TFeedItem.flat _ | exact TIdx.flat _ | exact TVer.flat _ | (repeat (first | exact D1 | (refine B8 (by first | exact E6 _ | exact D5 _ _ | exact D0 _ | exact D8 _ | exact D7) ?_))))) | (refine P9 ?_ ?_; (first | exact TWrite.flat _ | exact TFeedItem.flat _ | exact TIdx.flat _ | exact TVer.flat _ | (repeat (first | exact D1 | (refine B8 (by first | exact E6 _ | exact D5 _ _ | exact D0 _ | exact D8 _ | exact D7) ?_))))) | refine Q8 ?_ ?_))))); done) | (intro _; (repeat (first | exact K3 | (refine J2 (Q5 ?_) ?_; (repeat (first | exact D1 | (refine B8 (by first | exact E6 _ | exact D5 _ _ | exact D0 _ | exact D8 _ | exact D7) ?_)))) | (refine J2 (Q6 ?_) ?_; (repeat (first | exact Q7 | (refine Q9 (fun _ => ?_); (first | exact TWrite.flat _ | exact TFeedItem.flat _ | exact TIdx.flat _ | exact TVer.flat _ | (repeat (first | exact D1 | (refine B8 (by first | exact E6 _ | exact D5 _ _ | exact D0 _ | exact D8 _ | exact D7) ?_))))) | (refine R4 ?_; (first | exact TWrite.flat _ | exact TFeedItem.flat _ | exact TIdx.flat _ | exact TVer.flat _ | (repeat (first | exact D1 | (refine B8 (by first | exact E6 _ | exact D5 _ _ | exact D0 _ | exact D8 _ | exact D7) ?_))))) | (refine P9 ?_ ?_; (first | exact TWrite.flat _ | exact TFeedItem.flat _ | exact TIdx.flat _ | exact TVer.flat _ | (repeat (first | exact D1 | (refine B8 (by first | exact E6 _ | exact D5 _ _ | exact D0 _ | exact D8 _ | exact D7) ?_))))) | refine Q8 ?_ ?_))))); done)) ?_
 intro x55 ok55
 have he := BB6 (c6 hg).1 (c6 hg).2 ok55.1 ok55.2
 subst he
 refine A4 (A3 (A2 ?_))
 refine A5 rfl ?_
 refine B5 rfl ?_
 refine A4 ?_
 refine C5 ?_
 exact N5 [0] v (trivial) rfl (by rfl) (S1 rfl (C3 rfl (by rfl)))
end Go.Proofs.YtkegepoihkhihaaGreat

namespace Go.M
open Go.AV
theorem Ao3 {l : List TCell} (h : goodCells l = true) {i : Nat} {c : TCell} {g a u : Int} {j : Nat} (hj : j ≤ 16) : (M.insAll [] (partItems l i c j g a u)).length ≤ 1000 := by
  have h1 := AT8 h (i := i) (c := c) (g := g) (a := a) (u := u) hj
  have h2 := AR3 (l := partItems l i c j g a u) (o := [])
  rw [L6] at h2; omega
theorem Ao4 {a u : Int} {x : TState} : ∀ {l : List TState} {k : Nat}, allItems a u k (l ++ [x]) = allItems a u k l ++ feedIn x.Cells ((k + l.length : Nat) : Int) a u
  | [], k => by
    show feedIn x.Cells k a u ++ [] = [] ++ _
    simp
  | y :: l, k => by
    show feedIn y.Cells k a u ++ allItems a u (k + 1) (l ++ [x]) = (feedIn y.Cells k a u ++ allItems a u (k + 1) l) ++ _
    rw [Ao4 (l := l) (k := k + 1), List.append_assoc, J3, show k + 1 + l.length = k + (l.length + 1) by omega]
theorem all_take {a u : Int} {l : List TState} {i : Nat} {x : TState} (h : l[i]? = some x) : allItems a u 0 (l.take (i + 1)) = allItems a u 0 (l.take i) ++ feedIn x.Cells (i : Int) a u := by
  have hi := (List.getElem?_eq_some_iff.1 h).1
  rw [List.take_add_one, h, Option.toList_some, Ao4, F0, Nat.zero_add, Nat.min_eq_left (by omega)]
theorem AN5 {s : TState} (h : goodCells s.Cells = true) (g a u : Int) : (feedIn s.Cells g a u).length ≤ 384 := by
  have h1 := AX2 (c6 h).1 (c6 h).2 g a u
  obtain ⟨f1, f2, f3⟩ := U0 h
  have h2 := AO7 (l := s.Cells) (g := g) (a := a) (u := u) fun c hc => (f3 c hc).2.2.1
  omega
theorem Aa7 {a u : Int} : ∀ {l : List TState} {k : Nat}, (∀ s ∈ l, goodCells s.Cells = true) → (allItems a u k l).length ≤ 384 * l.length
  | [], k, _ => Nat.le_refl _
  | s :: l, k, h => by
    have ih := Aa7 (a := a) (u := u) (l := l) (k := k + 1) fun t ht => h t (List.mem_cons_of_mem _ ht)
    have h1 := AN5 (h s List.mem_cons_self) k a u
    show (feedIn s.Cells k a u ++ allItems a u (k + 1) l).length ≤ _
    rw [I5, J3]; omega
theorem BC0 {x : TFeedItem} (h : l23Good x = true) : x.size ≤ 36 := by
  rw [← AP6] at h
  unfold goodItem isStored goodVal at h
  simp only [Bool.and_eq_true, decide_eq_true_eq] at h
  have h1 := Ap6 h.1.2
  have h2 := h.2.1.1
  show x.Key.length + x.Val.length ≤ 36
  omega
theorem Ag3 {l : List TFeedItem} (h : l23Feed l = true) : sizeL TFeedItem.size l ≤ 20000 := by
  obtain ⟨h1, _, h3⟩ := (X1 l).1 h
  have h4 := AD2 (f := TFeedItem.size) (c := 36) (l := l) fun x hx => BC0 (h1 x hx)
  have h5 : l.length * (36 + 1) ≤ 400 * 37 := Nat.mul_le_mul_right _ h3
  omega
theorem mx_most (d s : Int) : (if s < d then d else s) = mxI d s := by unfold mxI; split <;> split <;> omega
theorem Ar4 {a u : Int} {o : List TFeedItem} {l : List TState} {i : Nat} {x : TState} (h : l[i]? = some x) (hm : (mergeF o (feedIn x.Cells (i : Int) a u)).2 = true) : mergeN a u o i (l.drop i) = mergeN a u (mergeF o (feedIn x.Cells (i : Int) a u)).1 (i + 1) (l.drop (i + 1)) := by
  rw [drop_some h, mergeN, if_pos hm]
theorem Ar5 {a u : Int} {o : List TFeedItem} {l : List TState} {i : Nat} {x : TState} (h : l[i]? = some x) (hm : (mergeF o (feedIn x.Cells (i : Int) a u)).2 = false) : mergeN a u o i (l.drop i) = none := by
  rw [drop_some h, mergeN, if_neg (by rw [hm]; decide)]
theorem Ar6 {o b : List TFeedItem} (h : (mergeF o b).2 = true) : l23Feed (mergeF o b).1 = true := by
  rcases An7 o b with e | ⟨r, e, h1, h2, h3, h4⟩
  · rw [e] at h; cases h
  · rw [e]
    obtain ⟨o1, o2, o3⟩ := (X1 o).1 h1
    obtain ⟨g1, g2, g3⟩ := (X1 b).1 h2
    obtain ⟨r1, r2, _⟩ := y5 o2 h3
    exact (X1 r).2 ⟨fun x hx => ((r2 x).1 hx).elim (o1 x) (g1 x), r1, h4⟩
end Go.M
namespace Go.Proofs.YtkegepoihkhihaaGreat
open Go Go.AV Go.M
attribute [local irreducible] OpW OpA OpS AWP FSpec ESpec GSpec OpE RetOk RetOkG RvDen Le Ev GuardIs SrcIs SrcE Int.tmod IntKind.wrap bandI
theorem BC1 (l : List TCell) (g a u : Int) (hg : goodCells l = true) : GSpec Tryz.prog 46 [AV.list 2 (l.map TCell.cs), AV.int g, AV.int a, AV.int u] [] (fun _ : Value => True) (fun v => [.arr v 63 5 ((feedIn l g a u).map TFeedItem.cs)]) (fun v => AV.is v) := by
 obtain ⟨f1, f2, f3⟩ := U0 hg
 refine J9 Tryz.func46 rfl Tryz.ntmps46 rfl ?_
 refine A3 (A2 ?_)
 refine A1 rfl (B7 rfl O7) ?_
 refine A4 (A3 (A2 ?_))
 refine R7 rfl rfl rfl rfl F3 H9 ?_
 intro v13
 refine B5 rfl ?_
 refine A4 (A3 (A3 (A2 ?_)))
 refine A1 rfl (B7 rfl B6) ?_
 refine A4 (C8 ?_)
 refine AWP.le (H4 [0] rfl) ?_
 refine Q0 [(0, _), (1, _), (2, _), (3, _), (8, _)] _ (fun (i : Nat) (v : Value) => i ≤ l.length) (fun (i : Nat) (v : Value) => [.arr v 63 5 ((M.insAll [] (rawItems (l.take i) g a u)).map TFeedItem.cs)]) (fun (i : Nat) (v : Value) => [(9, AV.is v), (10, AV.int i)]) (fun (i : Nat) (v : Value) => l.length - i) (0) (v13) ?_ (P8 (by rfl) ⟨rfl, rfl, rfl, rfl, rfl, rfl, rfl, trivial⟩) ?_
 ·exact Nat.zero_le _
 intro i v hinv
 refine A3 (A3 (A2 ?_))
 refine A5 rfl ?_
 refine A5 rfl ?_
 refine A1 rfl (G9 rfl E9 (A0 rfl)) ?_
 refine A1 rfl (J6 rfl (A0 rfl) (A0 rfl)) ?_
 refine A4 ?_
 refine C4 (A0 rfl) ?_ ?_
 ·intro h17
  have k17 := of_decide_eq_true h17; try simp only [A8] at k17
  have hlt : i < l.length := by (simpa using h17)
  obtain ⟨c, hx⟩ := get_some hlt
  have hcf := f3 c (G4 hx)
  refine C7 (A3 (C8 (A3 (A2 ?_))))
  refine A1 rfl (B7 rfl B6) ?_
  refine A4 (C8 ?_)
  refine AWP.le (H4 [0] rfl) ?_
  refine Q0 [(0, _), (1, _), (2, _), (3, _), (8, _), (10, _), (14, _), (15, _), (16, _), (17, _)] _ (fun (j : Nat) (w : Value) => j ≤ c.Vers.length) (fun (j : Nat) (w : Value) => [.arr w 63 5 ((M.insAll [] (partItems l i c j g a u)).map TFeedItem.cs)]) (fun (j : Nat) (w : Value) => [(9, AV.is w), (11, AV.int j)]) (fun (j : Nat) (w : Value) => c.Vers.length - j) (0) (v) ?_ (P8 (by (rw [AN4]; rfl)) ⟨rfl, rfl, rfl, rfl, rfl, rfl, rfl, rfl, rfl, rfl, rfl, rfl, trivial⟩) ?_
  ·exact Nat.zero_le _
  intro j w hinv
  refine A3 (A3 (A2 ?_))
  refine A5 rfl ?_
  refine A5 rfl ?_
  refine A5 rfl ?_
  refine A1 rfl (I9 rfl E9 G0 (A0 rfl) (A0 rfl) hx (by first | omega | (simp only [D3, A9, szR] at *; omega))) ?_
  refine A1 rfl (V1 rfl G7 rfl P0 (A0 rfl) rfl) ?_
  refine A1 rfl (N4 rfl (A0 rfl) R8 rfl) ?_
  refine A1 rfl (G9 rfl K1 (A0 rfl)) ?_
  refine A1 rfl (J6 rfl (A0 rfl) (A0 rfl)) ?_
  refine A4 ?_
  refine C4 (A0 rfl) ?_ ?_
  ·intro h27
   have k27 := of_decide_eq_true h27; try simp only [A8] at k27
   have hlt1 : j < c.Vers.length := by (simpa using h27)
   obtain ⟨y, hy⟩ := get_some hlt1
   have hpl := Ao3 hg (i := i) (c := c) (g := g) (a := a) (u := u) (j := j) (by omega)
   refine C7 (A3 (C8 (A3 (A2 ?_))))
   refine A5 rfl ?_
   refine A5 rfl ?_
   refine A1 rfl (I9 rfl E9 G0 (A0 rfl) (A0 rfl) hx (by first | omega | (simp only [D3, A9, szR] at *; omega))) ?_
   refine A1 rfl (V1 rfl G7 rfl P0 (A0 rfl) rfl) ?_
   refine A1 rfl (N4 rfl (A0 rfl) R8 rfl) ?_
   refine A5 rfl ?_
   refine A1 rfl (I9 rfl K1 N0 (A0 rfl) (A0 rfl) hy (by first | omega | (simp only [D3, A9, szR] at *; omega))) ?_
   refine A1 rfl (K6 rfl (A0 rfl) e6 N0) ?_
   refine F9 rfl rfl rfl rfl Tryz.zeroValue127 rfl ?_
   intro b12
   refine D6 0 rfl rfl rfl (A0 rfl) (A0 rfl) (E7 _) rfl N0 rfl ?_
   refine A4 (A3 (A2 ?_))
   refine A1 rfl (B1 0 rfl L2 rfl B3 (A0 rfl) rfl) ?_
   refine A1 rfl (B0 0 rfl (A0 rfl) rfl B9 rfl) ?_
   refine A5 rfl ?_
   refine A1 rfl (O5 rfl (A0 rfl) (A0 rfl)) ?_
   refine A5 rfl ?_
   refine C9 rfl (fun hc => B1 0 rfl L2 rfl B3 (A0 rfl) rfl) ?_
   refine C9 rfl (fun hc => B0 0 rfl (A6 rfl hc) rfl B9 rfl) ?_
   refine C9 rfl (fun hc => C1 rfl (A0 rfl)) ?_
   refine C9 rfl (fun hc => U7 rfl (A6 rfl hc) (A6 rfl hc)) ?_
   refine A1 rfl (H6 rfl (A0 rfl) (F6 rfl)) ?_
   refine A4 ?_
   refine C4 (A0 rfl) ?_ ?_
   ·intro h47
    refine AWP.le (H4 [0] rfl) ?_
    refine AT0 _ 19 (.pure 0 (.pure 1 (.pure 2 (.pure 3 (.pure 4 (.pure 5 (.pure 6 (.pure 7 (.pure 8 (.pure 9 (.pure 10 (.pure 11 (.pure 12 (.pure 13 (.e1 14 (.pure 15 (.pure 16 (.pure 17 (.pure 18 .nil))))))))))))))))))) (by kernel_rfl) (by kernel_rfl) rfl (W8 1) ?_
    refine H0 rfl rfl rfl (fun ext => C1 rfl (A0 rfl)) ?_
    refine H0 rfl rfl rfl (fun ext => B1 0 rfl L2 rfl B3 (A0 rfl) rfl) ?_
    refine H0 rfl rfl rfl (fun ext => B0 0 rfl (A0 rfl) rfl B9 rfl) ?_
    refine H0 rfl rfl rfl (fun ext => C1 rfl (A0 rfl)) ?_
    refine H0 rfl rfl rfl (fun ext => C1 rfl (A0 rfl)) ?_
    refine H0 rfl rfl rfl (fun ext => C1 rfl (A0 rfl)) ?_
    refine H0 rfl rfl rfl (fun ext => I9 rfl E9 G0 (A0 rfl) (A0 rfl) hx (by first | omega | (simp only [D3, A9, szR] at *; omega))) ?_
    refine H0 rfl rfl rfl (fun ext => V1 rfl G7 rfl E8 (A0 rfl) rfl) ?_
    refine H0 rfl rfl rfl (fun ext => N4 rfl (A0 rfl) G5 rfl) ?_
    refine H0 rfl rfl rfl (fun ext => B1 1 rfl L2 rfl E8 (A0 rfl) rfl) ?_
    refine H0 rfl rfl rfl (fun ext => B0 0 rfl (A0 rfl) rfl G5 rfl) ?_
    refine H0 rfl rfl rfl (fun ext => B1 2 rfl L2 rfl J8 (A0 rfl) rfl) ?_
    refine H0 rfl rfl rfl (fun ext => B0 0 rfl (A0 rfl) rfl L8 rfl) ?_
    refine H0 rfl rfl rfl (fun ext => O0 (places := #[(0, 1), (1, 1), (2, 1), (3, 1), (4, 1)]) rfl K7 Tryz.zeroValue63 (fun w => by kernel_rfl) rfl (D9 (A0 rfl) (K5 _ _) (D9 (A0 rfl) (K5 _ _) (D9 (A0 rfl) (P2 _) (D9 (A0 rfl) (P2 _) (D9 (A0 rfl) (Y6 _) H7))))) rfl) ?_
    refine X8 ?_
    refine V0 rfl rfl rfl (n4 [1] rfl Tryz.call69 rfl (AX6 w (M.insAll [] (partItems l i c j g a u)) (itemOf g c.Key y) (by omega)) (A7 (A0 rfl) (A7 (A0 rfl) C6)) rfl) (fun a _ => (by first | exact F2 rfl | exact F2 (List.append_assoc _ _ _) | exact I7)) ?_
    intro x63 ok63
    refine H0 rfl rfl rfl (fun ext => C1 rfl (A0 rfl)) ?_
    refine H0 rfl rfl rfl (fun ext => H8 rfl (A0 rfl) rfl) ?_
    refine H0 rfl rfl rfl (fun ext => H8 rfl (A0 rfl) rfl) ?_
    refine H0 rfl rfl rfl (fun ext => B7 rfl (A0 rfl)) ?_
    refine c5 ?_
    refine A4 (A2 ?_)
    refine A5 rfl ?_
    refine A1 rfl (G8 rfl (A0 rfl) B6 (by first | omega | (simp only [D3, A9, szR] at *; omega))) ?_
    refine B5 rfl ?_
    refine A4 ?_
    refine O4 j w (j + 1) (x63) ?_ ?_ (Le.trans (H4 [0, 0] rfl) (L7 1 (by first | (rw [AI8 hy h47, AX7]; rfl) | (rw [AO8 hy h47]; rfl)) ⟨rfl, rfl, rfl, rfl, rfl, rfl, rfl, rfl, rfl, rfl, rfl, rfl, trivial⟩))
    ·exact (by omega)
    omega
   intro h47
   refine C7 (A2 ?_)
   refine A5 rfl ?_
   refine A1 rfl (G8 rfl (A0 rfl) B6 (by first | omega | (simp only [D3, A9, szR] at *; omega))) ?_
   refine B5 rfl ?_
   refine A4 ?_
   refine O4 j w (j + 1) (w) ?_ ?_ (Le.trans (H4 [0, 0] rfl) (L7 1 (by first | (rw [AI8 hy h47, AX7]; rfl) | (rw [AO8 hy h47]; rfl)) ⟨rfl, rfl, rfl, rfl, rfl, rfl, rfl, rfl, rfl, rfl, rfl, rfl, trivial⟩))
   ·exact (by omega)
   omega
  intro h27
  have k27 := of_decide_eq_false h27; try simp only [A8] at k27
  have hge1 : c.Vers.length ≤ j := by (simpa using h27)
  refine G6 ?_
  refine A2 ?_
  refine A5 rfl ?_
  refine A1 rfl (G8 rfl (A0 rfl) B6 (by first | omega | (simp only [D3, A9, szR] at *; omega))) ?_
  refine B5 rfl ?_
  refine A4 ?_
  refine O4 i v (i + 1) (w) ?_ ?_ (Le.trans (H4 [0] rfl) (P8 (by (rw [Ag2 hx hge1]; rfl)) ⟨rfl, rfl, rfl, rfl, rfl, rfl, rfl, trivial⟩))
  ·exact (by omega)
  omega
 intro h17
 have k17 := of_decide_eq_false h17; try simp only [A8] at k17
 have hge : l.length ≤ i := by (simpa using h17)
 rw [List.take_of_length_le hge]
 refine G6 ?_
 refine A3 (A2 ?_)
 refine A5 rfl ?_
 refine B5 rfl ?_
 refine A4 ?_
 refine C5 ?_
 exact N5 [0] v (trivial) rfl (by rfl) (S1 rfl (C3 rfl (by rfl)))
theorem Ay0 (l : List TCell) (g a u : Int) (hg : goodCells l = true) : FSpec Tryz.prog 46 [AV.list 2 (l.map TCell.cs), AV.int g, AV.int a, AV.int u] (AV.list 5 ((feedIn l g a u).map TFeedItem.cs)) :=
  T3 (BC1 l g a u hg) fun v _ => N1 (List.mem_singleton.2 rfl) J4
theorem Ao5 (s : TState) (g a u : Int) (hg : goodCells s.Cells = true) : FSpec Tryz.prog 53 [AV.agg s.cs, AV.int g, AV.int a, AV.int u] (AV.list 5 ((feedIn s.Cells g a u).map TFeedItem.cs)) :=
  T3 (Ar3 s g a u hg) fun v _ => N1 (List.mem_singleton.2 rfl) J4
theorem Ao6 (d : Int) (l : List TState) (hs : ∀ s ∈ l, s.size ≤ 1048576) : GSpec Tryz.prog 25 [AV.agg [AV.int d], AV.list 4 (l.map TState.cs)] [] (fun _ : Value => True) (fun v => [.arr v 63 5 ((nextR d l).2.1.map TFeedItem.cs)]) (fun v => AV.tup [AV.agg [AV.int (nextR d l).1], AV.is v, AV.bool (nextR d l).2.2]) := by
 refine J9 Tryz.func25 rfl Tryz.ntmps25 rfl ?_
 refine A3 (A2 ?_)
 refine N8 rfl rfl rfl rfl (A0 rfl) ?_
 intro b2
 refine F9 rfl rfl rfl rfl Tryz.zeroValue52 rfl ?_
 intro b4
 refine A1 rfl (B7 rfl O7) ?_
 refine A1 rfl (B7 rfl F5) ?_
 refine A4 (A3 (A3 (A2 ?_)))
 refine A1 rfl (B1 0 rfl L5 rfl B3 (A0 rfl) rfl) ?_
 refine A1 rfl (B0 1 rfl (A0 rfl) rfl B9 rfl) ?_
 refine A1 rfl (E4 rfl Tryz.call52 rfl (AP9 _) (A7 (A0 rfl) C6)) ?_
 refine A1 rfl (M2 rfl (A0 rfl)) ?_
 refine A5 rfl ?_
 refine J5 rfl (fun hc => C1 rfl (A0 rfl)) ?_
 refine J5 rfl (fun hc => E4 rfl Tryz.call40 rfl (Aa6 l hs) (A7 (A6 rfl hc) C6)) ?_
 refine J5 rfl (fun hc => M2 rfl (A6 rfl hc)) ?_
 refine A1 rfl (T5 rfl (A0 rfl) (F6 rfl)) ?_
 refine A4 ?_
 refine C4 (A0 rfl) ?_ ?_
 ·intro h19
  have he : nextR d l = (0, [], false) := (by unfold nextR; rw [if_neg (by cases h1 : isTrue d <;> simp_all)])
  rw [he]
  refine A3 (A2 ?_)
  refine A1 rfl (O0 (places := #[(0, 1)]) rfl L5 Tryz.zeroValue52 (fun w => by kernel_rfl) rfl H7 rfl) ?_
  refine D6 0 rfl rfl rfl (A0 rfl) (A0 rfl) (E7 _) rfl M1 rfl ?_
  refine A1 rfl (B7 rfl O7) ?_
  refine A1 rfl (B7 rfl F5) ?_
  refine A4 ?_
  refine C5 ?_
  refine a8 63 5 ?_
  exact N5 [0] (Value.slice none 0 0) (trivial) rfl (by rfl) (W6 rfl (by decide) (F4 (L1 (ys := _) 1 rfl rfl T2 M1 rfl) (F4 (C3 rfl (by rfl)) (F4 (C3 rfl (by rfl)) M5))))
 intro h19
 have hc : isTrue d = true ∧ areStates l = true := (by cases h1 : isTrue d <;> cases h2 : areStates l <;> simp_all)
 have hst := g6.1 hc.2
 have hgc := k6 hst.2.2
 obtain ⟨up, hup⟩ : ∃ up, mxI d (sureL l) = up := ⟨_, rfl⟩
 have hnr : nextR d l = (match mergeN d up [] 0 l with | some r => (up, r, true) | none => (0, [], false)) := (by unfold nextR; rw [hc.1, hc.2, hup]; rfl)
 refine C7 (A3 ?_)
 refine I8 (by kernel_rfl) (by kernel_rfl) rfl ?_
 refine B2 rfl rfl (B1 0 rfl L5 rfl B3 (A0 rfl) rfl) ?_
 refine B2 rfl rfl (B0 1 rfl (A0 rfl) rfl B9 rfl) ?_
 refine B2 rfl rfl (C1 rfl (A0 rfl)) ?_
 refine B2 rfl rfl (E4 rfl Tryz.call41 rfl (Ar2 l hst.2.2) (A7 (A0 rfl) C6)) ?_
 refine B2 rfl rfl (w_max rfl (A0 rfl) (A0 rfl)) ?_
 refine B2 rfl rfl (B7 rfl (A0 rfl)) ?_
 refine P1 ?_
 refine A3 (A2 ?_)
 refine R7 rfl rfl rfl rfl F3 H9 ?_
 intro v26
 refine B5 rfl ?_
 refine A4 (A3 (A3 (A2 ?_)))
 refine A5 rfl ?_
 refine A1 rfl (G9 rfl O2 (A0 rfl)) ?_
 refine A1 rfl (C1 rfl B6) ?_
 refine A4 (C8 ?_)
 refine AWP.le (H4 [0] rfl) ?_
 refine Q0 [(2, _), (4, _), (5, _), (6, _), (7, _), (27, _), (28, _)] _ (fun (i : Nat) (v : Value) => i ≤ l.length) (fun (i : Nat) (v : Value) => [.arr v 63 5 ((allItems d (mxI d (sureL l)) 0 (l.take i)).map TFeedItem.cs)]) (fun (i : Nat) (v : Value) => [(8, AV.is v), (29, AV.int i)]) (fun (i : Nat) (v : Value) => l.length - i) (0) (v26) ?_ (P8 (by rfl) ⟨rfl, rfl, rfl, rfl, rfl, rfl, rfl, rfl, rfl, trivial⟩) ?_
 ·exact Nat.zero_le _
 intro i v hinv
 refine A3 (A2 ?_)
 refine A1 rfl (J6 rfl (A0 rfl) (A0 rfl)) ?_
 refine A4 (A3 ?_)
 refine C4 (A0 rfl) ?_ ?_
 ·intro h30
  have k30 := of_decide_eq_true h30; try simp only [A8] at k30
  have hlt : i < l.length := by (simpa using h30)
  obtain ⟨x, hx⟩ := get_some hlt
  have hxg := hgc x (G4 hx)
  have hal := Aa7 (a := d) (u := mxI d (sureL l)) (l := l.take i) (k := 0) (fun s hm => hgc s (List.mem_of_mem_take hm))
  have hfs := AN5 hxg (i : Int) d (mxI d (sureL l))
  have htl : (l.take i).length ≤ 4 := (by rw [F0]; omega)
  refine C7 (A3 (C8 (A3 (A2 ?_))))
  refine A5 rfl ?_
  refine A1 rfl (I9 rfl O2 C2 (A0 rfl) (A0 rfl) hx (by first | omega | (simp only [D3, A9, szR] at *; omega))) ?_
  refine A1 rfl (K6 rfl (A0 rfl) E2 C2) ?_
  refine F9 rfl rfl rfl rfl Tryz.zeroValue43 rfl ?_
  intro b10
  refine B5 rfl ?_
  refine D6 0 rfl rfl rfl (A0 rfl) (A0 rfl) (E7 _) rfl C2 rfl ?_
  refine A4 (A2 ?_)
  refine A5 rfl ?_
  refine A1 rfl (F7 0 rfl (A0 rfl) rfl E2 C2 rfl) ?_
  refine A5 rfl ?_
  refine A1 rfl (B1 0 rfl L5 rfl B3 (A0 rfl) rfl) ?_
  refine A1 rfl (B0 3 rfl (A0 rfl) rfl B9 rfl) ?_
  refine A5 rfl ?_
  refine A1 rfl (E4 rfl Tryz.call53 rfl (Ao5 x (i : Int) d (mxI d (sureL l)) hxg) (A7 (A0 rfl) (A7 (A0 rfl) (A7 (A0 rfl) (A7 (A0 rfl) C6))))) ?_
  refine M0 (by' := 56) 1 rfl rfl rfl rfl F3 Tryz.type63 rfl rfl rfl rfl rfl rfl (A0 rfl) (A0 rfl) rfl (by simp only [A8]; omega) ?_
  intro v41_2
  refine B5 rfl ?_
  refine A4 (A2 ?_)
  refine A1 rfl (G8 rfl (A0 rfl) B6 (by first | omega | (simp only [D3, A9, szR] at *; omega))) ?_
  refine A5 rfl ?_
  refine A4 ?_
  refine O4 i v (i + 1) (v41_2) ?_ ?_ (Le.trans (H4 [0, 0] rfl) (L7 1 (by (rw [all_take hx, List.map_append]; rfl)) ⟨rfl, rfl, rfl, rfl, rfl, rfl, rfl, rfl, rfl, trivial⟩))
  ·exact (by omega)
  omega
 intro h30
 have k30 := of_decide_eq_false h30; try simp only [A8] at k30
 have hge : l.length ≤ i := by (simpa using h30)
 rw [List.take_of_length_le hge]
 have hal := Aa7 (a := d) (u := mxI d (sureL l)) (l := l) (k := 0) hgc
 refine G6 ?_
 refine A3 (A2 ?_)
 refine A5 rfl ?_
 refine AC8 [0] rfl rfl rfl rfl Tryz.call63 rfl (AF9 v (allItems d (mxI d (sureL l)) 0 l) (by omega)) rfl (Q4 (evb (A0 rfl)) (Q4 (evb Ar8) X3)) (by first | exact K3 | (intro _; exact K3) | (intro _; first | exact E6 _ | exact D5 _ _ | exact D0 _ | exact D8 _ | exact D7) | (intro _; refine Y7 ?_; (repeat (first | exact D1 | (refine B8 (by first | (first | exact E6 _ | exact D5 _ _ | exact D0 _ | exact D8 _ | exact D7) | (refine S5 ?_; (repeat (first | exact D1 | (refine B8 (by first | exact E6 _ | exact D5 _ _ | exact D0 _ | exact D8 _ | exact D7) ?_))))) ?_))); done) | (intro _; refine S5 ?_; (repeat (first | exact D1 | (refine B8 (by first | exact E6 _ | exact D5 _ _ | exact D0 _ | exact D8 _ | exact D7) ?_))); done) | ((repeat (first | exact K3 | (refine J2 (Q5 ?_) ?_; (repeat (first | exact D1 | (refine B8 (by first | exact E6 _ | exact D5 _ _ | exact D0 _ | exact D8 _ | exact D7) ?_)))) | (refine J2 (Q6 ?_) ?_; (repeat (first | exact Q7 | (refine Q9 (fun _ => ?_); (first | exact TWrite.flat _ | exact TFeedItem.flat _ | exact TIdx.flat _ | exact TVer.flat _ | (repeat (first | exact D1 | (refine B8 (by first | exact E6 _ | exact D5 _ _ | exact D0 _ | exact D8 _ | exact D7) ?_))))) | (refine R4 ?_; (first | exact TWrite.flat _ | exact TFeedItem.flat _ | exact TIdx.flat _ | exact TVer.flat _ | (repeat (first | exact D1 | (refine B8 (by first | exact E6 _ | exact D5 _ _ | exact D0 _ | exact D8 _ | exact D7) ?_))))) | (refine P9 ?_ ?_; (first | exact TWrite.flat _ | exact TFeedItem.flat _ | exact TIdx.flat _ | exact TVer.flat _ | (repeat (first | exact D1 | (refine B8 (by first | exact E6 _ | exact D5 _ _ | exact D0 _ | exact D8 _ | exact D7) ?_))))) | refine Q8 ?_ ?_))))); done) | (intro _; (repeat (first | exact K3 | (refine J2 (Q5 ?_) ?_; (repeat (first | exact D1 | (refine B8 (by first | exact E6 _ | exact D5 _ _ | exact D0 _ | exact D8 _ | exact D7) ?_)))) | (refine J2 (Q6 ?_) ?_; (repeat (first | exact Q7 | (refine Q9 (fun _ => ?_); (first | exact TWrite.flat _ | exact TFeedItem.flat _ | exact TIdx.flat _ | exact TVer.flat _ | (repeat (first | exact D1 | (refine B8 (by first | exact E6 _ | exact D5 _ _ | exact D0 _ | exact D8 _ | exact D7) ?_))))) | (refine R4 ?_; (first | exact TWrite.flat _ | exact TFeedItem.flat _ | exact TIdx.flat _ | exact TVer.flat _ | (repeat (first | exact D1 | (refine B8 (by first | exact E6 _ | exact D5 _ _ | exact D0 _ | exact D8 _ | exact D7) ?_))))) | (refine P9 ?_ ?_; (first | exact TWrite.flat _ | exact TFeedItem.flat _ | exact TIdx.flat _ | exact TVer.flat _ | (repeat (first | exact D1 | (refine B8 (by first | exact E6 _ | exact D5 _ _ | exact D0 _ | exact D8 _ | exact D7) ?_))))) | refine Q8 ?_ ?_))))); done)) (by first | exact K3 | (intro _; exact K3) | (intro _; first | exact E6 _ | exact D5 _ _ | exact D0 _ | exact D8 _ | exact D7) | (intro _; refine Y7 ?_; (repeat (first | exact D1 | (refine B8 (by first | (first | exact E6 _ | exact D5 _ _ | exact D0 _ | exact D8 _ | exact D7) | (refine S5 ?_; (repeat (first | exact D1 | (refine B8 (by first | exact E6 _ | exact D5 _ _ | exact D0 _ | exact D8 _ | exact D7) ?_))))) ?_))); done) | (intro _; refine S5 ?_; (repeat (first | exact D1 | (refine B8 (by first | exact E6 _ | exact D5 _ _ | exact D0 _ | exact D8 _ | exact D7) ?_))); done) | ((repeat (first | exact K3 | (refine J2 (Q5 ?_) ?_; (repeat (first | exact D1 | (refine B8 (by first | exact E6 _ | exact D5 _ _ | exact D0 _ | exact D8 _ | exact D7) ?_)))) | (refine J2 (Q6 ?_) ?_; (repeat (first | exact Q7 | (refine Q9 (fun _ => ?_); (first | exact TWrite.flat _ | exact TFeedItem.flat _ | exact TIdx.flat _ | exact TVer.flat _ | (repeat (first | exact D1 | (refine B8 (by first | exact E6 _ | exact D5 _ _ | exact D0 _ | exact D8 _ | exact D7) ?_))))) | (refine R4 ?_; (first | exact TWrite.flat _ | exact TFeedItem.flat _ | exact TIdx.flat _ | exact TVer.flat _ | (repeat (first | exact D1 | (refine B8 (by first | exact E6 _ | exact D5 _ _ | exact D0 _ | exact D8 _ | exact D7) ?_))))) | (refine P9 ?_ ?_; (first | exact TWrite.flat _ | exact TFeedItem.flat _ | exact TIdx.flat _ | exact TVer.flat _ | (repeat (first | exact D1 | (refine B8 (by first | exact E6 _ | exact D5 _ _ | exact D0 _ | exact D8 _ | exact D7) ?_))))) | refine Q8 ?_ ?_))))); done) | (intro _; (repeat (first | exact K3 | (refine J2 (Q5 ?_) ?_; (repeat (first | exact D1 | (refine B8 (by first | exact E6 _ | exact D5 _ _ | exact D0 _ | exact D8 _ | exact D7) ?_)))) | (refine J2 (Q6 ?_) ?_; (repeat (first | exact Q7 | (refine Q9 (fun _ => ?_); (first | exact TWrite.flat _ | exact TFeedItem.flat _ | exact TIdx.flat _ | exact TVer.flat _ | (repeat (first | exact D1 | (refine B8 (by first | exact E6 _ | exact D5 _ _ | exact D0 _ | exact D8 _ | exact D7) ?_))))) | (refine R4 ?_; (first | exact TWrite.flat _ | exact TFeedItem.flat _ | exact TIdx.flat _ | exact TVer.flat _ | (repeat (first | exact D1 | (refine B8 (by first | exact E6 _ | exact D5 _ _ | exact D0 _ | exact D8 _ | exact D7) ?_))))) | (refine P9 ?_ ?_; (first | exact TWrite.flat _ | exact TFeedItem.flat _ | exact TIdx.flat _ | exact TVer.flat _ | (repeat (first | exact D1 | (refine B8 (by first | exact E6 _ | exact D5 _ _ | exact D0 _ | exact D8 _ | exact D7) ?_))))) | refine Q8 ?_ ?_))))); done)) (by first | exact K3 | (intro _; exact K3) | (intro _; first | exact E6 _ | exact D5 _ _ | exact D0 _ | exact D8 _ | exact D7) | (intro _; refine Y7 ?_; (repeat (first | exact D1 | (refine B8 (by first | (first | exact E6 _ | exact D5 _ _ | exact D0 _ | exact D8 _ | exact D7) | (refine S5 ?_; (repeat (first | exact D1 | (refine B8 (by first | exact E6 _ | exact D5 _ _ | exact D0 _ | exact D8 _ | exact D7) ?_))))) ?_))); done) | (intro _; refine S5 ?_; (repeat (first | exact D1 | (refine B8 (by first | exact E6 _ | exact D5 _ _ | exact D0 _ | exact D8 _ | exact D7) ?_))); done) | ((repeat (first | exact K3 | (refine J2 (Q5 ?_) ?_; (repeat (first | exact D1 | (refine B8 (by first | exact E6 _ | exact D5 _ _ | exact D0 _ | exact D8 _ | exact D7) ?_)))) | (refine J2 (Q6 ?_) ?_; (repeat (first | exact Q7 | (refine Q9 (fun _ => ?_); (first | exact TWrite.flat _ | exact TFeedItem.flat _ | exact TIdx.flat _ | exact TVer.flat _ | (repeat (first | exact D1 | (refine B8 (by first | exact E6 _ | exact D5 _ _ | exact D0 _ | exact D8 _ | exact D7) ?_))))) | (refine R4 ?_; (first | exact TWrite.flat _ | exact TFeedItem.flat _ | exact TIdx.flat _ | exact TVer.flat _ | (repeat (first | exact D1 | (refine B8 (by first | exact E6 _ | exact D5 _ _ | exact D0 _ | exact D8 _ | exact D7) ?_))))) | (refine P9 ?_ ?_; (first | exact TWrite.flat _ | exact TFeedItem.flat _ | exact TIdx.flat _ | exact TVer.flat _ | (repeat (first | exact D1 | (refine B8 (by first | exact E6 _ | exact D5 _ _ | exact D0 _ | exact D8 _ | exact D7) ?_))))) | refine Q8 ?_ ?_))))); done) | (intro _; (repeat (first | exact K3 | (refine J2 (Q5 ?_) ?_; (repeat (first | exact D1 | (refine B8 (by first | exact E6 _ | exact D5 _ _ | exact D0 _ | exact D8 _ | exact D7) ?_)))) | (refine J2 (Q6 ?_) ?_; (repeat (first | exact Q7 | (refine Q9 (fun _ => ?_); (first | exact TWrite.flat _ | exact TFeedItem.flat _ | exact TIdx.flat _ | exact TVer.flat _ | (repeat (first | exact D1 | (refine B8 (by first | exact E6 _ | exact D5 _ _ | exact D0 _ | exact D8 _ | exact D7) ?_))))) | (refine R4 ?_; (first | exact TWrite.flat _ | exact TFeedItem.flat _ | exact TIdx.flat _ | exact TVer.flat _ | (repeat (first | exact D1 | (refine B8 (by first | exact E6 _ | exact D5 _ _ | exact D0 _ | exact D8 _ | exact D7) ?_))))) | (refine P9 ?_ ?_; (first | exact TWrite.flat _ | exact TFeedItem.flat _ | exact TIdx.flat _ | exact TVer.flat _ | (repeat (first | exact D1 | (refine B8 (by first | exact E6 _ | exact D5 _ _ | exact D0 _ | exact D8 _ | exact D7) ?_))))) | refine Q8 ?_ ?_))))); done)) ?_
 intro x44 ok44
 have hne := next_eq hgc hst.2.1 ok44.1 ok44.2
 rw [hup] at hne
 refine A4 (A3 (A3 (A2 ?_)))
 refine A5 rfl ?_
 refine A1 rfl (g8 rfl Tryz.call65 rfl (Ap8 x44) (D0 _) (Q4 (AN8 0 (A0 rfl) rfl) X3)) ?_
 refine A1 rfl (M2 rfl (A0 rfl)) ?_
 refine A4 ?_
 refine C4 (A0 rfl) ?_ ?_
 ·intro h47
  have he : nextR d l = (0, [], false) := (by rw [hnr, ← hne, if_neg (by simpa using h47)])
  rw [he]
  refine A3 (A2 ?_)
  refine A1 rfl (O0 (places := #[(0, 1)]) rfl L5 Tryz.zeroValue52 (fun w => by kernel_rfl) rfl H7 rfl) ?_
  refine D6 1 rfl rfl rfl (A0 rfl) (A0 rfl) (E7 _) rfl M1 rfl ?_
  refine A1 rfl (B7 rfl O7) ?_
  refine A1 rfl (B7 rfl F5) ?_
  refine A4 ?_
  refine C5 ?_
  refine a8 63 5 ?_
  exact N5 [0] (Value.slice none 0 0) (trivial) rfl (by rfl) (W6 rfl (by decide) (F4 (L1 (ys := _) 2 rfl rfl T2 M1 rfl) (F4 (C3 rfl (by rfl)) (F4 (C3 rfl (by rfl)) M5))))
 intro h47
 have he : nextR d l = (up, x44, true) := (by rw [hnr, ← hne, if_pos (by simpa using h47)])
 rw [he, ← hup]
 refine C7 (A3 (A2 ?_))
 refine A5 rfl ?_
 refine A1 rfl (O0 (places := #[(0, 1)]) rfl L5 Tryz.zeroValue52 (fun w => by kernel_rfl) rfl (D9 (A0 rfl) (K5 _ _) H7) rfl) ?_
 refine A5 rfl ?_
 refine D6 1 rfl rfl rfl (A0 rfl) (A0 rfl) (E7 _) rfl M1 rfl ?_
 refine B5 rfl ?_
 refine A1 rfl (B7 rfl F5) ?_
 refine A4 ?_
 refine C5 ?_
 exact N5 [0] v (trivial) rfl (by rfl) (W6 rfl (by decide) (F4 (L1 (ys := _) 1 rfl rfl T2 M1 rfl) (F4 (C3 rfl (by rfl)) (F4 (C3 rfl (by rfl)) M5))))
theorem Ay1 (d s : Int) : FSpec Tryz.prog 62 [AV.int s, AV.int d] (AV.int (mxI d s)) := by
  have h := AB9 s d
  rw [mx_most] at h; exact h
theorem Ao7 (a b : List TFeedItem) (hsa : sizeL TFeedItem.size a ≤ 1048576) (hsb : sizeL TFeedItem.size b ≤ 1048576) : FSpec Tryz.prog 31 [AV.list 5 (a.map TFeedItem.cs), AV.list 5 (b.map TFeedItem.cs)] (AV.tup [AV.list 5 ((mergeF a b).1.map TFeedItem.cs), AV.bool (mergeF a b).2]) :=
  T3 (Ax9 a b hsa hsb) fun x _ => AK4 (H2 (N1 (G4 (i := 0) rfl) J4) (H2 M4 V4))
theorem Aa8 (d : Int) (l : List TState) (hs : ∀ s ∈ l, s.size ≤ 1048576) : FSpec Tryz.prog 23 [AV.agg [AV.int d], AV.list 4 (l.map TState.cs)] (AV.tup [AV.agg [AV.int (nextR d l).1], AV.list 5 ((nextR d l).2.1.map TFeedItem.cs), AV.bool (nextR d l).2.2]) := by
 refine E5 Tryz.func23 rfl Tryz.ntmps23 rfl ?_
 refine A3 (A2 ?_)
 refine N8 rfl rfl rfl rfl (A0 rfl) ?_
 intro b2
 refine F9 rfl rfl rfl rfl Tryz.zeroValue52 rfl ?_
 intro b4
 refine A1 rfl (B7 rfl (AX9 (sz := 5))) ?_
 refine A1 rfl (B7 rfl F5) ?_
 refine A4 (A3 (A2 ?_))
 refine A5 rfl ?_
 refine A1 rfl (E4 rfl Tryz.call10 rfl (Ao2 l hs) (A7 (A0 rfl) C6)) ?_
 refine A5 rfl ?_
 refine A1 rfl (H8 rfl (A0 rfl) rfl) ?_
 refine A1 rfl (H8 rfl (A0 rfl) rfl) ?_
 refine B5 rfl ?_
 refine B5 rfl ?_
 refine A4 (A3 (A3 (A2 ?_)))
 refine A5 rfl ?_
 refine A1 rfl (M2 rfl (A0 rfl)) ?_
 refine A5 rfl ?_
 refine J5 rfl (fun hc => B1 0 rfl L5 rfl B3 (A0 rfl) rfl) ?_
 refine J5 rfl (fun hc => B0 1 rfl (A6 rfl hc) rfl B9 rfl) ?_
 refine J5 rfl (fun hc => E4 rfl Tryz.call39 rfl (V7 _ _ _) (A7 (A6 rfl hc) (A7 B6 (A7 B6 C6)))) ?_
 refine J5 rfl (fun hc => M2 rfl (A6 rfl hc)) ?_
 refine A1 rfl (T5 rfl (A0 rfl) (F6 rfl)) ?_
 refine A4 ?_
 refine C4 (A0 rfl) ?_ ?_
 ·intro h25
  have he : nextR d l = (0, [], false) := (by unfold nextR; rw [if_neg (by intro h9; rw [Bool.and_eq_true] at h9; unfold sureR at h25; rw [if_pos h9.2] at h25; have h8 := h9.1; unfold M.isTrue at h8; simp [h8] at h25)])
  rw [he]
  refine A3 (A2 ?_)
  refine A1 rfl (O0 (places := #[(0, 1)]) rfl L5 Tryz.zeroValue52 (fun w => by kernel_rfl) rfl H7 rfl) ?_
  refine A1 rfl (L0 rfl F3 H9 Tryz.zeroValue63 rfl rfl rfl rfl H7 rfl rfl) ?_
  refine D6 0 rfl rfl rfl (A0 rfl) (A0 rfl) (E7 _) rfl M1 rfl ?_
  refine B5 rfl ?_
  refine A1 rfl (B7 rfl F5) ?_
  refine A4 ?_
  refine C5 ?_
  exact Z7 rfl (by decide) (F4 (L1 (ys := _) 0 rfl rfl T2 M1 rfl) (F4 (C3 rfl (by rfl)) (F4 (C3 rfl (by rfl)) M5)))
 intro h25
 have hc : isTrue d = true ∧ areStates l = true := (by unfold sureR at h25; cases h2 : areStates l with | false => (rw [h2] at h25; simp at h25) | true => (rw [h2] at h25; exact ⟨by unfold M.isTrue; simpa using h25, rfl⟩))
 have hst := g6.1 hc.2
 have hgc := k6 hst.2.2
 have hsr : sureR l = (sureL l, true) := (by unfold sureR; rw [if_pos hc.2])
 rw [hsr]
 refine C7 (A3 (A2 ?_))
 refine A5 rfl ?_
 refine A1 rfl (B1 0 rfl L5 rfl B3 (A0 rfl) rfl) ?_
 refine A1 rfl (B0 1 rfl (A0 rfl) rfl B9 rfl) ?_
 refine A1 rfl (E4 rfl Tryz.call62 rfl (Ay1 _ _) (A7 (A0 rfl) (A7 (A0 rfl) C6))) ?_
 refine B5 rfl ?_
 refine A4 (A3 (A2 ?_))
 refine A1 rfl (L0 rfl F3 H9 Tryz.zeroValue63 rfl rfl rfl rfl H7 rfl rfl) ?_
 refine B5 rfl ?_
 refine A4 (A3 (A3 (A2 ?_)))
 refine A1 rfl (B7 rfl B6) ?_
 refine A4 (C8 ?_)
 refine Q0 [(1, _), (2, _), (4, _), (7, _)] _ (fun (i : Nat) (o : List TFeedItem) => i ≤ l.length ∧ mergeN d (mxI d (sureL l)) [] 0 l = mergeN d (mxI d (sureL l)) o i (l.drop i) ∧ l23Feed o = true) (fun (i : Nat) (o : List TFeedItem) => []) (fun (i : Nat) (o : List TFeedItem) => [(9, AV.list 5 (o.map TFeedItem.cs)), (10, AV.int i)]) (fun (i : Nat) (o : List TFeedItem) => l.length - i) (0) ([]) ?_ (P8 (by rfl) ⟨rfl, rfl, rfl, rfl, rfl, rfl, trivial⟩) ?_
 ·exact ⟨Nat.zero_le _, rfl, rfl⟩
 intro i o hinv
 refine A3 (A3 (A2 ?_))
 refine A5 rfl ?_
 refine A5 rfl ?_
 refine A1 rfl (G9 rfl O2 (A0 rfl)) ?_
 refine A1 rfl (J6 rfl (A0 rfl) (A0 rfl)) ?_
 refine A4 ?_
 refine C4 (A0 rfl) ?_ ?_
 ·intro h36
  have k36 := of_decide_eq_true h36; try simp only [A8] at k36
  have hlt : i < l.length := by (simpa using h36)
  obtain ⟨x, hx⟩ := get_some hlt
  have hxg := hgc x (G4 hx)
  have hso : sizeL TFeedItem.size o ≤ 1048576 := Nat.le_trans (Ag3 hinv.2.2) (by decide)
  have hff := (AR2 hxg (g := (i : Int)) (by unfold isGroup within; simp; omega) d (mxI d (sureL l))).1
  have hsf : sizeL TFeedItem.size (feedIn x.Cells (i : Int) d (mxI d (sureL l))) ≤ 1048576 := Nat.le_trans (Ag3 hff) (by decide)
  refine C7 (A3 (C8 (A3 ?_)))
  refine I8 (by kernel_rfl) (by kernel_rfl) rfl ?_
  refine B2 rfl rfl (C1 rfl (A0 rfl)) ?_
  refine B2 rfl rfl (C1 rfl (A0 rfl)) ?_
  refine B2 rfl rfl (C1 rfl (A0 rfl)) ?_
  refine B2 rfl rfl (I9 rfl O2 C2 (A0 rfl) (A0 rfl) hx (by first | omega | (simp only [D3, A9, szR] at *; omega))) ?_
  refine B2 rfl rfl (V1 rfl C0 rfl N9 (A0 rfl) rfl) ?_
  refine B2 rfl rfl (N4 rfl (A0 rfl) Q1 rfl) ?_
  refine B2 rfl rfl (C1 rfl (A0 rfl)) ?_
  refine B2 rfl rfl (B1 0 rfl L5 rfl B3 (A0 rfl) rfl) ?_
  refine B2 rfl rfl (B0 1 rfl (A0 rfl) rfl B9 rfl) ?_
  refine B2 rfl rfl (C1 rfl (A0 rfl)) ?_
  refine B2 rfl rfl (E4 rfl Tryz.call46 rfl (Ay0 x.Cells (i : Int) d (mxI d (sureL l)) hxg) (A7 (A0 rfl) (A7 (A0 rfl) (A7 (A0 rfl) (A7 (A0 rfl) C6))))) ?_
  refine B2 rfl rfl (E4 rfl Tryz.call31 rfl (Ao7 _ _ (by assumption) (by assumption)) (A7 (A0 rfl) (A7 (A0 rfl) C6))) ?_
  refine B2 rfl rfl (C1 rfl (A0 rfl)) ?_
  refine B2 rfl rfl (H8 rfl (A0 rfl) rfl) ?_
  refine B2 rfl rfl (H8 rfl (A0 rfl) rfl) ?_
  refine B2 rfl rfl (B7 rfl (A0 rfl)) ?_
  refine B2 rfl rfl (B7 rfl (A0 rfl)) ?_
  refine P1 ?_
  refine A3 (A3 (A2 ?_))
  refine A5 rfl ?_
  refine A1 rfl (M2 rfl (A0 rfl)) ?_
  refine A4 ?_
  refine C4 (A0 rfl) ?_ ?_
  ·intro h55
   have hmf : (mergeF o (feedIn x.Cells (i : Int) d (mxI d (sureL l)))).2 = false := by simpa using h55
   have hmn : mergeN d (mxI d (sureL l)) [] 0 l = none := (by rw [hinv.2.1, Ar5 hx hmf])
   have he : nextR d l = (0, [], false) := (by unfold nextR; rw [hc.1, hc.2, hmn]; rfl)
   rw [he]
   refine A3 (A2 ?_)
   refine A1 rfl (O0 (places := #[(0, 1)]) rfl L5 Tryz.zeroValue52 (fun w => by kernel_rfl) rfl H7 rfl) ?_
   refine A1 rfl (L0 rfl F3 H9 Tryz.zeroValue63 rfl rfl rfl rfl H7 rfl rfl) ?_
   refine D6 0 rfl rfl rfl (A0 rfl) (A0 rfl) (E7 _) rfl M1 rfl ?_
   refine B5 rfl ?_
   refine A1 rfl (B7 rfl F5) ?_
   refine A4 ?_
   refine C5 ?_
   exact Z7 rfl (by decide) (F4 (L1 (ys := _) 0 rfl rfl T2 M1 rfl) (F4 (C3 rfl (by rfl)) (F4 (C3 rfl (by rfl)) M5)))
  intro h55
  have hmf : (mergeF o (feedIn x.Cells (i : Int) d (mxI d (sureL l)))).2 = true := by simpa using h55
  refine C7 (A2 ?_)
  refine A5 rfl ?_
  refine B5 rfl ?_
  refine A4 (A2 ?_)
  refine A5 rfl ?_
  refine A1 rfl (G8 rfl (A0 rfl) B6 (by first | omega | (simp only [D3, A9, szR] at *; omega))) ?_
  refine B5 rfl ?_
  refine A4 ?_
  refine O4 i o (i + 1) ((mergeF o (feedIn x.Cells (i : Int) d (mxI d (sureL l)))).1) ?_ ?_ (P8 (by rfl) ⟨rfl, rfl, rfl, rfl, rfl, rfl, trivial⟩)
  ·exact ⟨by omega, by rw [hinv.2.1, Ar4 hx hmf], Ar6 hmf⟩
  omega
 intro h36
 have k36 := of_decide_eq_false h36; try simp only [A8] at k36
 have hge : l.length ≤ i := by (simpa using h36)
 have hmn : mergeN d (mxI d (sureL l)) [] 0 l = some o := (by rw [hinv.2.1, List.drop_eq_nil_of_le hge]; rfl)
 have he : nextR d l = (mxI d (sureL l), o, true) := (by unfold nextR; rw [hc.1, hc.2, hmn]; rfl)
 rw [he]
 refine G6 ?_
 refine A3 (A2 ?_)
 refine A5 rfl ?_
 refine A1 rfl (O0 (places := #[(0, 1)]) rfl L5 Tryz.zeroValue52 (fun w => by kernel_rfl) rfl (D9 (A0 rfl) (K5 _ _) H7) rfl) ?_
 refine A5 rfl ?_
 refine D6 0 rfl rfl rfl (A0 rfl) (A0 rfl) (E7 _) rfl M1 rfl ?_
 refine B5 rfl ?_
 refine A1 rfl (B7 rfl F5) ?_
 refine A4 ?_
 refine C5 ?_
 exact Z7 rfl (by decide) (F4 (L1 (ys := _) 0 rfl rfl T2 M1 rfl) (F4 (C3 rfl (by rfl)) (F4 (C3 rfl (by rfl)) M5)))
end Go.Proofs.YtkegepoihkhihaaGreat

namespace Go.AV
def LA (x y : AV) : Prop := ∀ R v, x.den R v → y.den R v
theorem i5 {x : AV} : LA x x := fun _ _ h => h
theorem AO9 {sz : Nat} : LA AV.nils (AV.list sz []) := fun _ _ h => Ab2 _ _ h
def LAs (xs ys : List AV) : Prop := xs.length = ys.length ∧ ∀ (i : Nat) (x y : AV), xs[i]? = some x → ys[i]? = some y → LA x y
theorem Au0 : LAs [] [] := ⟨rfl, fun i x y h => by simp at h⟩
theorem X9 {x y : AV} {xs ys : List AV} (h : LA x y) (k : LAs xs ys) : LAs (x :: xs) (y :: ys) := ⟨by simp [k.1], fun i u v hu hv => by
  cases i with
  | zero => simp at hu hv; subst hu; subst hv; exact h
  | succ i => exact k.2 i u v (by simpa using hu) (by simpa using hv)⟩
theorem la_agg {xs ys : List AV} (h : LAs xs ys) : LA (AV.agg xs) (AV.agg ys) := fun R v ⟨vs, e, hl, hd⟩ =>
  ⟨vs, e, hl.trans h.1, fun i u y hu hy => by
    have hi : i < xs.length := by rw [h.1]; exact (List.getElem?_eq_some_iff.1 hy).1
    have hx := List.getElem?_eq_getElem hi
    obtain ⟨h1, h2⟩ := hd i u _ hu hx
    exact ⟨h.2 i _ _ hx hy R u h1, h2⟩⟩
theorem w_la {P : Program} {G : Nat → Prop} {n : Nat} {own : List Own} {o : Oper} {E : EnvF} {x y : AV} (h : OpW P G n own o E x) (l : LA x y) : OpW P G n own o E y := fun w0 R0 R a w h1 h2 h3 => Oper.wp_mono2 (fun _ _ ⟨v, R', e1, e2, e3, e4⟩ => ⟨v, R', e1, e2, e3, l _ _ e4⟩) (fun _ _ _ h => h) (h w0 R0 R a w h1 h2 h3)
end Go.AV
namespace Go.M
open Go.AV
theorem y6 {l : List TRec} {n : Nat} (hl : l.length ≤ n) (h : ∀ r ∈ l, r.size ≤ 1000) : (stateOfR l).1.size ≤ n * 3004 := by
  unfold stateOfR
  split
  · have h1 := AI1 (stFrom zState l)
    have h2 := AB8 (m := 1000) (s := zState) (l := l) h
    have h3 : phi zState = 0 := rfl
    have h5 : l.length * (3 * (1 + 1000) + 1) ≤ n * 3004 := Nat.mul_le_mul hl (by decide)
    dsimp only; omega
  · exact Nat.zero_le _
end Go.M
namespace Go.Proofs.YtkegepoihkhihaaGreat
open Go Go.AV Go.M
attribute [local irreducible] OpW OpA OpS AWP FSpec ESpec GSpec OpE RetOk RetOkG RvDen Le Ev GuardIs SrcIs SrcE Int.tmod Int.tdiv IntKind.wrap bandI
theorem AN6 (b : Nat) (code : List Int) (hcode : ByteL code) (c : TCur) (hp : c.p ≤ 700000) : GSpec Tryz.prog 75 [AV.ptr b 0] [.box b 114 (curC code c)] (fun x : TCur × TState => x.1.p ≤ c.p + 1500 ∧ x.2.size ≤ 40000) (fun x => [.box b 114 (curC code x.1)]) (fun x => AV.agg x.2.cs) := by
 refine J9 Tryz.func75 rfl Tryz.ntmps75 rfl ?_
 refine A3 (A2 ?_)
 refine F9 rfl rfl rfl rfl Tryz.zeroValue43 rfl ?_
 intro b2
 refine A4 (A3 (A3 (A2 ?_)))
 refine A5 rfl ?_
 refine J7 [1] rfl rfl rfl rfl Tryz.call114 rfl (l7 _ _ hcode _ _ (by omega) (by omega)) (A7 (A0 rfl) (A7 B6 C6)) rfl ?_
 intro x11 ok11
 refine A4 ?_
 refine C4 (A0 rfl) ?_ ?_
 ·intro h11
  refine A3 (A2 ?_)
  refine A5 rfl ?_
  refine J7 [0] rfl rfl rfl rfl Tryz.call115 rfl (AW6 _ _ hcode _ (by omega)) (A7 (A0 rfl) C6) rfl ?_
  intro x13 ok13
  refine D6 1 rfl rfl rfl (A0 rfl) (A0 rfl) (E7 _) rfl C2 rfl ?_
  refine A4 ?_
  refine C5 ?_
  (refine N5 [0] ((x13.1, x13.2)) ?_ rfl (by first | (dsimp only; rfl) | rfl) (S1 rfl (L1 (ys := _) 1 rfl rfl E2 C2 rfl)); (first | exact ⟨by dsimp only; omega, Nat.le_trans ok13.2.1 (by decide)⟩ | (have h9 := y6 (n := 12) (l := l) (by omega) hinv.2.2.2; exact ⟨by dsimp only; omega, Nat.le_trans h9 (by decide)⟩)))
 intro h11
 refine C7 (A3 (A2 ?_))
 refine R7 rfl rfl rfl rfl I4 F8 ?_
 intro v14
 refine B5 rfl ?_
 refine A4 (A3 (A2 ?_))
 refine A5 rfl ?_
 refine J7 [1] rfl rfl rfl rfl Tryz.call76 rfl (S4 _ _ hcode _ _ (by omega) (by omega)) (A7 (A0 rfl) (A7 B6 C6)) rfl ?_
 intro x16 ok16
 refine B5 rfl ?_
 refine A4 (A3 (A3 (A2 ?_)))
 refine A1 rfl (B7 rfl B6) ?_
 refine A4 (C8 ?_)
 refine AWP.le (H4 [0, 0] rfl) ?_
 refine c7 [(0, _), (2, _), (4, _)] _ (fun (i : Nat) (cc : TCur) (l : List TRec) (v : Value) => i ≤ 6 ∧ cc.p ≤ c.p + 4 + 104 * i ∧ l.length ≤ 2 * i ∧ ∀ r ∈ l, r.size ≤ 1000) (fun (i : Nat) (cc : TCur) (l : List TRec) (v : Value) => [.box b 114 (curC code cc), .arr v 104 7 (l.map TRec.cs)]) (fun (i : Nat) (cc : TCur) (l : List TRec) (v : Value) => [(3, AV.is v), (5, AV.int i)]) (fun (i : Nat) (cc : TCur) (l : List TRec) (v : Value) => 6 - i) (0) (x16.1) ([]) (v14) ?_ (P8 (by rfl) ⟨rfl, rfl, rfl, rfl, rfl, trivial⟩) ?_
 ·exact ⟨by omega, by omega, by simp, fun r hr => by cases hr⟩
 intro i cc l v hinv
 refine A3 (A3 (A2 ?_))
 refine A5 rfl ?_
 refine A5 rfl ?_
 refine A1 rfl (J6 rfl (A0 rfl) (A0 rfl)) ?_
 refine A4 ?_
 refine C4 (A0 rfl) ?_ ?_
 ·intro h19
  have k19 := of_decide_eq_true h19; try simp only [A8] at k19
  refine C7 (A3 (C8 (A3 (A2 ?_))))
  refine A5 rfl ?_
  refine J7 [0] rfl rfl rfl rfl Tryz.call116 rfl (AR1 _ _ hcode _ (by omega)) (A7 (A0 rfl) C6) rfl ?_
  intro x23 ok23
  refine F9 rfl rfl rfl rfl Tryz.zeroValue104 rfl ?_
  intro b6
  refine D6 0 rfl rfl rfl (A0 rfl) (A0 rfl) (E7 _) rfl F8 rfl ?_
  refine A4 (A3 (A2 ?_))
  refine A5 rfl ?_
  refine A1 rfl (F7 0 rfl (A0 rfl) rfl M8 F8 rfl) ?_
  refine A1 rfl (L0 rfl I4 F8 Tryz.zeroValue104 rfl rfl rfl rfl (D9 (A0 rfl) (E7 _) H7) rfl rfl) ?_
  refine M0 (by' := 88) 2 rfl rfl rfl rfl I4 Tryz.type104 rfl rfl rfl rfl rfl rfl (A0 rfl) (A0 rfl) rfl (by first | omega | (simp only [D3, A9, szR] at *; omega)) ?_
  intro v27_1
  refine B5 rfl ?_
  refine A4 (A3 (A2 ?_))
  refine A1 rfl (B1 0 rfl B4 rfl B3 (A0 rfl) rfl) ?_
  refine A1 rfl (B0 0 rfl (A0 rfl) rfl B9 rfl) ?_
  refine A1 rfl (P4 rfl (A0 rfl) B6) ?_
  refine A5 rfl ?_
  refine C9 rfl (fun hc => C1 rfl (A0 rfl)) ?_
  refine AB6 rfl rfl (H1 rfl rfl rfl) ?_ ?_
  ·intro gh33
   refine J7 [1] rfl rfl rfl rfl Tryz.call76 rfl (S4 _ _ hcode _ _ (by omega) (by omega)) (A7 (A6 rfl gh33) (A7 B6 C6)) rfl ?_
   intro x33 ok33
   refine C9 rfl (fun hc => O5 rfl (A0 rfl) B6) ?_
   refine A1 rfl (H6 rfl (A0 rfl) (F6 rfl)) ?_
   refine A4 ?_
   refine C4 (A0 rfl) ?_ ?_
   ·intro h35
    refine O1 (by first | (simp only [splice, pick, S9, S6, S2, R9, S3, List.nil_append, T0, S7, List.append_nil, R6, List.take_zero, S0, List.drop_zero]; exact rfl) | exact rfl) ?_
    refine AWP.le (H4 [1] rfl) ?_
    refine U4 _ [(0, false), (1, false), (2, false), (3, false), (4, false), (5, false), (6, true), (7, false), (8, false), (9, false), (10, true)] (by kernel_rfl) (by kernel_rfl) rfl (W8 1) ?_
    refine G1 rfl rfl rfl (fun ext => C1 rfl (A0 rfl)) ?_
    refine G1 rfl rfl rfl (fun ext => B1 1 rfl B4 rfl B3 (A0 rfl) rfl) ?_
    refine G1 rfl rfl rfl (fun ext => B0 0 rfl (A0 rfl) rfl B9 rfl) ?_
    refine G1 rfl rfl rfl (fun ext => B1 2 rfl B4 rfl B3 (A0 rfl) rfl) ?_
    refine G1 rfl rfl rfl (fun ext => B0 0 rfl (A0 rfl) rfl B9 rfl) ?_
    refine G1 rfl rfl rfl (fun ext => C1 rfl (A0 rfl)) ?_
    refine U2 rfl rfl rfl (n4 [1] rfl Tryz.call76 rfl (S4 _ _ hcode _ _ (by omega) (by omega)) (A7 (A0 rfl) (A7 B6 C6)) rfl) (fun a _ => (by first | exact F2 rfl | exact F2 (List.append_assoc _ _ _) | exact I7)) ?_
    intro x42 ok42
    refine G1 rfl rfl rfl (fun ext => G8 rfl (A0 rfl) (A0 rfl) (by first | omega | (simp only [D3, A9, szR] at *; omega))) ?_
    refine G1 rfl rfl rfl (fun ext => (w_la (O0 (places := #[(0, 1), (1, 1), (2, 1), (3, 1), (4, 1), (5, 1), (6, 1)]) rfl B4 Tryz.zeroValue104 (fun w => by kernel_rfl) rfl (D9 B6 (K5 _ _) (D9 (A0 rfl) (K5 _ _) (D9 (A0 rfl) (K5 _ _) (D9 F5 (Y6 _) H7)))) rfl) (la_agg (X9 i5 (X9 i5 (X9 i5 (X9 i5 (X9 (AO9 (sz := 1)) (X9 (AO9 (sz := 3)) (X9 i5 Au0)))))))))) ?_
    refine G1 rfl rfl rfl (fun ext => L0 rfl I4 F8 Tryz.zeroValue104 rfl rfl rfl rfl (D9 (A0 rfl) (E7 _) H7) rfl rfl) ?_
    refine U2 rfl rfl rfl (O6 (by' := 88) 1 rfl I4 Tryz.type104 rfl rfl rfl rfl rfl rfl (A0 rfl) (A0 rfl) rfl (by simp only [I5, A8, A9, J3, L6]; omega)) (fun a _ => (by first | exact F2 rfl | exact F2 (List.append_assoc _ _ _) | exact I7)) ?_
    intro v46_2 _
    refine j7 ?_
    refine B5 rfl ?_
    refine A4 (A2 ?_)
    refine A5 rfl ?_
    refine A1 rfl (G8 rfl (A0 rfl) B6 (by first | omega | (simp only [D3, A9, szR] at *; omega))) ?_
    refine B5 rfl ?_
    refine A4 ?_
    refine U9 i cc l v (i + 1) (x42.1) (l ++ [x23.2] ++ [⟨2, x23.2.Txn, x23.2.Time + x42.2, 0, [], [], true⟩]) (v46_2) ?_ ?_ (Le.trans (H4 [0, 2, 0] rfl) (L7 1 (by (first | rfl | (simp only [List.map_append]; rfl))) ⟨rfl, rfl, rfl, rfl, rfl, trivial⟩))
    ·exact ⟨by omega, by omega, by simp only [I5, J3, L6]; omega, fun q hq => by (rcases List.mem_append.1 hq with hq | hq; (first | exact hinv.2.2.2 q hq | (rcases List.mem_append.1 hq with hq | hq; (exact hinv.2.2.2 q hq); (rw [List.mem_singleton.1 hq]; exact ok23.2.1))); (rw [List.mem_singleton.1 hq]; first | exact ok23.2.1 | exact Nat.le_of_ble_eq_true rfl))⟩
    omega
   intro h35
   refine C7 (A2 ?_)
   refine A5 rfl ?_
   refine A1 rfl (G8 rfl (A0 rfl) B6 (by first | omega | (simp only [D3, A9, szR] at *; omega))) ?_
   refine B5 rfl ?_
   refine A4 ?_
   refine U9 i cc l v (i + 1) (x33.1) (l ++ [x23.2]) (v27_1) ?_ ?_ (Le.trans (H4 [1, 0, 0] rfl) (L7 1 (by (first | rfl | (simp only [List.map_append]; rfl))) ⟨rfl, rfl, rfl, rfl, rfl, trivial⟩))
   ·exact ⟨by omega, by omega, by simp only [I5, J3, L6]; omega, fun q hq => by (rcases List.mem_append.1 hq with hq | hq; (first | exact hinv.2.2.2 q hq | (rcases List.mem_append.1 hq with hq | hq; (exact hinv.2.2.2 q hq); (rw [List.mem_singleton.1 hq]; exact ok23.2.1))); (rw [List.mem_singleton.1 hq]; first | exact ok23.2.1 | exact Nat.le_of_ble_eq_true rfl))⟩
   omega
  intro gh33
  refine AB6 rfl rfl (H1 rfl rfl rfl) (fun hq => by rw [gh33] at hq; cases hq) (fun _ => ?_)
  refine A1 rfl (H6 rfl (A0 rfl) (At1 (x := AV.bool false) gh33)) ?_
  refine A4 ?_
  refine C4 (A0 rfl) ?_ ?_
  ·intro h35
   refine O1 (by first | (simp only [splice, pick, S9, S6, S2, R9, S3, List.nil_append, T0, S7, List.append_nil, R6, List.take_zero, S0, List.drop_zero]; exact rfl) | exact rfl) ?_
   refine AWP.le (H4 [0] rfl) ?_
   refine U4 _ [(0, false), (1, false), (2, false), (3, false), (4, false), (5, false), (6, true), (7, false), (8, false), (9, false), (10, true)] (by kernel_rfl) (by kernel_rfl) rfl (W8 1) ?_
   refine G1 rfl rfl rfl (fun ext => C1 rfl (A0 rfl)) ?_
   refine G1 rfl rfl rfl (fun ext => B1 1 rfl B4 rfl B3 (A0 rfl) rfl) ?_
   refine G1 rfl rfl rfl (fun ext => B0 0 rfl (A0 rfl) rfl B9 rfl) ?_
   refine G1 rfl rfl rfl (fun ext => B1 2 rfl B4 rfl B3 (A0 rfl) rfl) ?_
   refine G1 rfl rfl rfl (fun ext => B0 0 rfl (A0 rfl) rfl B9 rfl) ?_
   refine G1 rfl rfl rfl (fun ext => C1 rfl (A0 rfl)) ?_
   refine U2 rfl rfl rfl (n4 [1] rfl Tryz.call76 rfl (S4 _ _ hcode _ _ (by omega) (by omega)) (A7 (A0 rfl) (A7 B6 C6)) rfl) (fun a _ => (by first | exact F2 rfl | exact F2 (List.append_assoc _ _ _) | exact I7)) ?_
   intro x42 ok42
   refine G1 rfl rfl rfl (fun ext => G8 rfl (A0 rfl) (A0 rfl) (by first | omega | (simp only [D3, A9, szR] at *; omega))) ?_
   refine G1 rfl rfl rfl (fun ext => (w_la (O0 (places := #[(0, 1), (1, 1), (2, 1), (3, 1), (4, 1), (5, 1), (6, 1)]) rfl B4 Tryz.zeroValue104 (fun w => by kernel_rfl) rfl (D9 B6 (K5 _ _) (D9 (A0 rfl) (K5 _ _) (D9 (A0 rfl) (K5 _ _) (D9 F5 (Y6 _) H7)))) rfl) (la_agg (X9 i5 (X9 i5 (X9 i5 (X9 i5 (X9 (AO9 (sz := 1)) (X9 (AO9 (sz := 3)) (X9 i5 Au0)))))))))) ?_
   refine G1 rfl rfl rfl (fun ext => L0 rfl I4 F8 Tryz.zeroValue104 rfl rfl rfl rfl (D9 (A0 rfl) (E7 _) H7) rfl rfl) ?_
   refine U2 rfl rfl rfl (O6 (by' := 88) 1 rfl I4 Tryz.type104 rfl rfl rfl rfl rfl rfl (A0 rfl) (A0 rfl) rfl (by simp only [I5, A8, A9, J3, L6]; omega)) (fun a _ => (by first | exact F2 rfl | exact F2 (List.append_assoc _ _ _) | exact I7)) ?_
   intro v46_3 _
   refine j7 ?_
   refine B5 rfl ?_
   refine A4 (A2 ?_)
   refine A5 rfl ?_
   refine A1 rfl (G8 rfl (A0 rfl) B6 (by first | omega | (simp only [D3, A9, szR] at *; omega))) ?_
   refine B5 rfl ?_
   refine A4 ?_
   refine U9 i cc l v (i + 1) (x42.1) (l ++ [x23.2] ++ [⟨2, x23.2.Txn, x23.2.Time + x42.2, 0, [], [], true⟩]) (v46_3) ?_ ?_ (Le.trans (H4 [0, 2, 0] rfl) (L7 1 (by (first | rfl | (simp only [List.map_append]; rfl))) ⟨rfl, rfl, rfl, rfl, rfl, trivial⟩))
   ·exact ⟨by omega, by omega, by simp only [I5, J3, L6]; omega, fun q hq => by (rcases List.mem_append.1 hq with hq | hq; (first | exact hinv.2.2.2 q hq | (rcases List.mem_append.1 hq with hq | hq; (exact hinv.2.2.2 q hq); (rw [List.mem_singleton.1 hq]; exact ok23.2.1))); (rw [List.mem_singleton.1 hq]; first | exact ok23.2.1 | exact Nat.le_of_ble_eq_true rfl))⟩
   omega
  intro h35
  refine C7 (A2 ?_)
  refine A5 rfl ?_
  refine A1 rfl (G8 rfl (A0 rfl) B6 (by first | omega | (simp only [D3, A9, szR] at *; omega))) ?_
  refine B5 rfl ?_
  refine A4 ?_
  refine U9 i cc l v (i + 1) (x23.1) (l ++ [x23.2]) (v27_1) ?_ ?_ (Le.trans (H4 [0, 0, 0] rfl) (L7 1 (by (first | rfl | (simp only [List.map_append]; rfl))) ⟨rfl, rfl, rfl, rfl, rfl, trivial⟩))
  ·exact ⟨by omega, by omega, by simp only [I5, J3, L6]; omega, fun q hq => by (rcases List.mem_append.1 hq with hq | hq; (first | exact hinv.2.2.2 q hq | (rcases List.mem_append.1 hq with hq | hq; (exact hinv.2.2.2 q hq); (rw [List.mem_singleton.1 hq]; exact ok23.2.1))); (rw [List.mem_singleton.1 hq]; first | exact ok23.2.1 | exact Nat.le_of_ble_eq_true rfl))⟩
  omega
 intro h19
 have k19 := of_decide_eq_false h19; try simp only [A8] at k19
 refine G6 ?_
 refine A3 (A2 ?_)
 refine A5 rfl ?_
 refine AC5 (Y8 [1] 48 rfl rfl (N1 (G4 (i := 0) rfl) J4) (T9 0 rfl rfl R5)) ?_
 refine A1 rfl (E4 rfl Tryz.call67 rfl (Aa1 l (by omega) (fun r hr => Nat.le_trans (hinv.2.2.2 r hr) (by decide))) (A7 (A0 rfl) C6)) ?_
 refine A5 rfl ?_
 refine A1 rfl (H8 rfl (A0 rfl) rfl) ?_
 refine A1 rfl (H8 rfl (A0 rfl) rfl) ?_
 refine A1 rfl (H8 rfl (A0 rfl) rfl) ?_
 refine F9 rfl rfl rfl rfl Tryz.zeroValue43 rfl ?_
 intro b7
 refine D6 0 rfl rfl rfl (A0 rfl) (A0 rfl) (E7 _) rfl C2 rfl ?_
 refine B5 rfl ?_
 refine B5 rfl ?_
 refine A4 (A3 (A3 (A2 ?_)))
 refine A5 rfl ?_
 refine J7 [1] rfl rfl rfl rfl Tryz.call114 rfl (l7 _ _ hcode _ _ (by omega) (by omega)) (A7 (A0 rfl) (A7 B6 C6)) rfl ?_
 intro x54 ok54
 refine A4 ?_
 refine C4 (A0 rfl) ?_ ?_
 ·intro h54
  refine A2 ?_
  refine A5 rfl ?_
  refine A1 rfl (L0 rfl T6 B3 Tryz.zeroValue3 rfl rfl rfl rfl (D9 B6 (K5 _ _) (D9 B6 (K5 _ _) (D9 B6 (K5 _ _) H7))) rfl rfl) ?_
  refine J7 [0] rfl rfl rfl rfl Tryz.call74 rfl (k5 _ _ hcode _ ([(-1), (0), (1)] : List Int) (by decide) (by omega)) (A7 (A0 rfl) (A7 (A0 rfl) C6)) rfl ?_
  intro x57 ok57
  refine A1 rfl (B1 0 rfl C0 rfl B3 (A0 rfl) rfl) ?_
  refine K4 1 rfl rfl rfl (A0 rfl) (A0 rfl) (K5 _ _) rfl B3 rfl ?_
  refine A4 (A3 (A2 ?_))
  refine A1 rfl (F7 1 rfl (A0 rfl) rfl E2 C2 rfl) ?_
  refine D6 2 rfl rfl rfl (A0 rfl) (A0 rfl) (E7 _) rfl C2 rfl ?_
  refine A4 ?_
  refine C5 ?_
  (refine N5 [0] ((x57.1, ⟨x57.2, (stateOfR l).1.Cells, (stateOfR l).1.Held, (stateOfR l).1.Told⟩)) ?_ rfl (by first | (dsimp only; rfl) | rfl) (S1 rfl (L1 (ys := _) 2 rfl rfl E2 C2 rfl)); (first | exact ⟨by dsimp only; omega, Nat.le_trans ok13.2.1 (by decide)⟩ | (have h9 := y6 (n := 12) (l := l) (by omega) hinv.2.2.2; exact ⟨by dsimp only; omega, Nat.le_trans h9 (by decide)⟩)))
 intro h54
 refine C7 (A3 (A2 ?_))
 refine A1 rfl (F7 1 rfl (A0 rfl) rfl E2 C2 rfl) ?_
 refine D6 2 rfl rfl rfl (A0 rfl) (A0 rfl) (E7 _) rfl C2 rfl ?_
 refine A4 ?_
 refine C5 ?_
 (refine N5 [0] ((x54.1, (stateOfR l).1)) ?_ rfl (by first | (dsimp only; rfl) | rfl) (S1 rfl (L1 (ys := _) 2 rfl rfl E2 C2 rfl)); (first | exact ⟨by dsimp only; omega, Nat.le_trans ok13.2.1 (by decide)⟩ | (have h9 := y6 (n := 12) (l := l) (by omega) hinv.2.2.2; exact ⟨by dsimp only; omega, Nat.le_trans h9 (by decide)⟩)))
end Go.Proofs.YtkegepoihkhihaaGreat

namespace Go.Proofs.YtkegepoihkhihaaGreat
open Go Go.AV Go.M
attribute [local irreducible] OpW OpA OpS AWP FSpec ESpec GSpec OpE RetOk RetOkG RvDen Le Ev GuardIs SrcIs SrcE Int.tmod Int.tdiv IntKind.wrap bandI
theorem Ai5 (b : Nat) (code : List Int) (hcode : ByteL code) (c : TCur) (hp : c.p ≤ 600000) : GSpec Tryz.prog 73 [AV.ptr b 0] [.box b 114 (curC code c)] (fun x : TCur × List TState × Value => x.1.p ≤ c.p + 8000 ∧ x.2.1.length ≤ 5 ∧ ∀ s ∈ x.2.1, s.size ≤ 40000) (fun x => [.box b 114 (curC code x.1), .arr x.2.2 43 4 (x.2.1.map TState.cs)]) (fun x => AV.is x.2.2) := by
 refine J9 Tryz.func73 rfl Tryz.ntmps73 rfl ?_
 refine A3 (A2 ?_)
 refine A1 rfl (B7 rfl O7) ?_
 refine A4 (A3 (A2 ?_))
 refine R7 rfl rfl rfl rfl O2 C2 ?_
 intro v6
 refine B5 rfl ?_
 refine A4 (A3 (A2 ?_))
 refine A5 rfl ?_
 refine J7 [1] rfl rfl rfl rfl Tryz.call76 rfl (S4 _ _ hcode _ _ (by omega) (by omega)) (A7 (A0 rfl) (A7 B6 C6)) rfl ?_
 intro x8 ok8
 refine A1 rfl (G8 rfl B6 (A0 rfl) (by first | omega | (simp only [D3, A9, szR] at *; omega))) ?_
 refine B5 rfl ?_
 refine A4 (A3 (A3 (A2 ?_)))
 refine A5 rfl ?_
 refine J7 [0] rfl rfl rfl rfl Tryz.call114 rfl (l7 _ _ hcode _ _ (by omega) (by omega)) (A7 (A0 rfl) (A7 B6 C6)) rfl ?_
 intro x11 ok11
 refine A4 ?_
 refine C4 (A0 rfl) ?_ ?_
 ·intro h11
  refine A2 ?_
  refine A5 rfl ?_
  refine A1 rfl (L0 rfl T6 B3 Tryz.zeroValue3 rfl rfl rfl rfl (D9 B6 (K5 _ _) (D9 B6 (K5 _ _) (D9 B6 (K5 _ _) H7))) rfl rfl) ?_
  refine J7 [0] rfl rfl rfl rfl Tryz.call74 rfl (k5 _ _ hcode _ ([(0), (4), (5)] : List Int) (by decide) (by omega)) (A7 (A0 rfl) (A7 (A0 rfl) C6)) rfl ?_
  intro x14 ok14
  obtain ⟨cq, hcq⟩ : ∃ cq, x14.1 = cq := ⟨_, rfl⟩
  obtain ⟨nn, hnn⟩ : ∃ nn, x14.2 = nn := ⟨_, rfl⟩
  have hcp : cq.p ≤ c.p + 6 := (by rw [← hcq]; omega)
  have hn5 : nn ≤ 5 := (by have h9 := ok14.2; rw [hnn] at h9; simp at h9; omega)
  rw [hcq, hnn]
  refine B5 rfl ?_
  refine A4 (A3 (A3 (A2 ?_)))
  refine A1 rfl (B7 rfl B6) ?_
  refine A4 (C8 ?_)
  refine AWP.le (H4 [0, 0] rfl) ?_
  refine c7 [(0, _), (2, _), (4, _)] _ (fun (i : Nat) (cc : TCur) (l : List TState) (v : Value) => i ≤ 5 ∧ cc.p ≤ c.p + 6 + 1500 * i ∧ l.length = i ∧ ∀ s ∈ l, s.size ≤ 40000) (fun (i : Nat) (cc : TCur) (l : List TState) (v : Value) => [.box b 114 (curC code cc), .arr v 43 4 (l.map TState.cs)]) (fun (i : Nat) (cc : TCur) (l : List TState) (v : Value) => [(3, AV.is v), (5, AV.int i)]) (fun (i : Nat) (cc : TCur) (l : List TState) (v : Value) => 5 - i) (0) (cq) ([]) (v6) ?_ (P8 (by rfl) ⟨rfl, rfl, rfl, rfl, rfl, trivial⟩) ?_
  ·exact ⟨by omega, by omega, rfl, fun r hr => by cases hr⟩
  intro i cc l v hinv
  refine A3 (A3 (A2 ?_))
  refine A5 rfl ?_
  refine A5 rfl ?_
  refine A1 rfl (J6 rfl (A0 rfl) (A0 rfl)) ?_
  refine A4 ?_
  refine C4 (A0 rfl) ?_ ?_
  ·intro h17
   have k17 := of_decide_eq_true h17; try simp only [A8] at k17
   refine C7 (A3 (C8 (A2 ?_)))
   refine A5 rfl ?_
   refine A5 rfl ?_
   refine J7 [0] rfl rfl rfl rfl Tryz.call75 rfl (AN6 _ _ hcode _ (by omega)) (A7 (A0 rfl) C6) rfl ?_
   intro x22 ok22
   refine A1 rfl (L0 rfl O2 C2 Tryz.zeroValue43 rfl rfl rfl rfl (D9 (A0 rfl) (E7 _) H7) rfl rfl) ?_
   refine M0 (by' := 80) 1 rfl rfl rfl rfl O2 Tryz.type43 rfl rfl rfl rfl rfl rfl (A0 rfl) (A0 rfl) rfl (by first | omega | (simp only [D3, A9, szR] at *; omega)) ?_
   intro v24_1
   refine B5 rfl ?_
   refine A4 (A2 ?_)
   refine A5 rfl ?_
   refine A1 rfl (G8 rfl (A0 rfl) B6 (by first | omega | (simp only [D3, A9, szR] at *; omega))) ?_
   refine B5 rfl ?_
   refine A4 ?_
   refine U9 i cc l v (i + 1) (x22.1) (l ++ [x22.2]) (v24_1) ?_ ?_ (Le.trans (H4 [0, 0] rfl) (P8 (by (rw [List.map_append]; rfl)) ⟨rfl, rfl, rfl, rfl, rfl, trivial⟩))
   ·exact ⟨by omega, by omega, by rw [I5]; simp; omega, fun q hq => by (rcases List.mem_append.1 hq with hq | hq; (exact hinv.2.2.2 q hq); (rw [List.mem_singleton.1 hq]; exact ok22.2))⟩
   omega
  intro h17
  have k17 := of_decide_eq_false h17; try simp only [A8] at k17
  refine G6 ?_
  refine A3 (A2 ?_)
  refine A5 rfl ?_
  refine B5 rfl ?_
  refine A4 ?_
  refine C5 ?_
  (refine N5 [0, 0] ((cc, l, v)) ?_ rfl (by first | (dsimp only; rfl) | rfl) (S1 rfl (C3 rfl (by rfl))); exact ⟨show cc.p ≤ _ by omega, show l.length ≤ 5 by omega, hinv.2.2.2⟩)
 intro h11
 obtain ⟨cq, hcq⟩ : ∃ cq, x11.1 = cq := ⟨_, rfl⟩
 obtain ⟨nn, hnn⟩ : ∃ nn, 1 + x8.2 = nn := ⟨_, rfl⟩
 have hcp : cq.p ≤ c.p + 6 := (by rw [← hcq]; omega)
 have hn5 : nn ≤ 5 := (by omega)
 rw [hcq, hnn]
 refine C7 (A3 (A3 (A2 ?_)))
 refine A1 rfl (B7 rfl B6) ?_
 refine A4 (C8 ?_)
 refine AWP.le (H4 [0, 0] rfl) ?_
 refine c7 [(0, _), (2, _), (4, _)] _ (fun (i : Nat) (cc : TCur) (l : List TState) (v : Value) => i ≤ 5 ∧ cc.p ≤ c.p + 6 + 1500 * i ∧ l.length = i ∧ ∀ s ∈ l, s.size ≤ 40000) (fun (i : Nat) (cc : TCur) (l : List TState) (v : Value) => [.box b 114 (curC code cc), .arr v 43 4 (l.map TState.cs)]) (fun (i : Nat) (cc : TCur) (l : List TState) (v : Value) => [(3, AV.is v), (5, AV.int i)]) (fun (i : Nat) (cc : TCur) (l : List TState) (v : Value) => 5 - i) (0) (cq) ([]) (v6) ?_ (P8 (by rfl) ⟨rfl, rfl, rfl, rfl, rfl, trivial⟩) ?_
 ·exact ⟨by omega, by omega, rfl, fun r hr => by cases hr⟩
 intro i cc l v hinv
 refine A3 (A3 (A2 ?_))
 refine A5 rfl ?_
 refine A5 rfl ?_
 refine A1 rfl (J6 rfl (A0 rfl) (A0 rfl)) ?_
 refine A4 ?_
 refine C4 (A0 rfl) ?_ ?_
 ·intro h17
  have k17 := of_decide_eq_true h17; try simp only [A8] at k17
  refine C7 (A3 (C8 (A2 ?_)))
  refine A5 rfl ?_
  refine A5 rfl ?_
  refine J7 [0] rfl rfl rfl rfl Tryz.call75 rfl (AN6 _ _ hcode _ (by omega)) (A7 (A0 rfl) C6) rfl ?_
  intro x22 ok22
  refine A1 rfl (L0 rfl O2 C2 Tryz.zeroValue43 rfl rfl rfl rfl (D9 (A0 rfl) (E7 _) H7) rfl rfl) ?_
  refine M0 (by' := 80) 1 rfl rfl rfl rfl O2 Tryz.type43 rfl rfl rfl rfl rfl rfl (A0 rfl) (A0 rfl) rfl (by first | omega | (simp only [D3, A9, szR] at *; omega)) ?_
  intro v24_2
  refine B5 rfl ?_
  refine A4 (A2 ?_)
  refine A5 rfl ?_
  refine A1 rfl (G8 rfl (A0 rfl) B6 (by first | omega | (simp only [D3, A9, szR] at *; omega))) ?_
  refine B5 rfl ?_
  refine A4 ?_
  refine U9 i cc l v (i + 1) (x22.1) (l ++ [x22.2]) (v24_2) ?_ ?_ (Le.trans (H4 [0, 0] rfl) (P8 (by (rw [List.map_append]; rfl)) ⟨rfl, rfl, rfl, rfl, rfl, trivial⟩))
  ·exact ⟨by omega, by omega, by rw [I5]; simp; omega, fun q hq => by (rcases List.mem_append.1 hq with hq | hq; (exact hinv.2.2.2 q hq); (rw [List.mem_singleton.1 hq]; exact ok22.2))⟩
  omega
 intro h17
 have k17 := of_decide_eq_false h17; try simp only [A8] at k17
 refine G6 ?_
 refine A3 (A2 ?_)
 refine A5 rfl ?_
 refine B5 rfl ?_
 refine A4 ?_
 refine C5 ?_
 (refine N5 [0, 0] ((cc, l, v)) ?_ rfl (by first | (dsimp only; rfl) | rfl) (S1 rfl (C3 rfl (by rfl))); exact ⟨show cc.p ≤ _ by omega, show l.length ≤ 5 by omega, hinv.2.2.2⟩)
theorem AP2 (code : List Int) (hcode : ByteL code) : GSpec Tryz.prog 33 [bytesI code] [] (fun x : Int × List TState × Value => x.2.1.length ≤ 5 ∧ ∀ s ∈ x.2.1, s.size ≤ 40000) (fun x => [.arr x.2.2 43 4 (x.2.1.map TState.cs)]) (fun x => AV.tup [AV.agg [AV.int x.1], AV.is x.2.2]) := by
 refine J9 Tryz.func33 rfl Tryz.ntmps33 rfl ?_
 refine A3 (A2 ?_)
 refine F9 rfl rfl rfl rfl Tryz.zeroValue52 rfl ?_
 intro b2
 refine A1 rfl (B7 rfl O7) ?_
 refine A4 (A3 (A2 ?_))
 refine A5 rfl ?_
 refine A1 rfl (O0 (places := #[(0, 1), (1, 1), (2, 1)]) rfl M6 Tryz.zeroValue114 (fun w => by kernel_rfl) rfl (D9 (A0 rfl) (U8 _ _) H7) rfl) ?_
 refine N8 rfl rfl rfl rfl (A0 rfl) ?_
 intro b8
 refine B5 rfl ?_
 refine A4 (A3 (A2 ?_))
 refine A5 rfl ?_
 refine J7 [0] rfl rfl rfl rfl Tryz.call73 rfl (Ai5 _ _ hcode ⟨0, 0⟩ (by decide)) (A7 (A0 rfl) C6) rfl ?_
 intro x10 ok10
 have hp10 : x10.1.p ≤ 8000 := by (have h9 := ok10.1; dsimp only at h9; omega)
 refine B5 rfl ?_
 refine A4 (A3 (A2 ?_))
 refine A5 rfl ?_
 refine A1 rfl (L0 rfl T6 B3 Tryz.zeroValue3 rfl rfl rfl rfl (D9 B6 (K5 _ _) (D9 B6 (K5 _ _) (D9 B6 (K5 _ _) (D9 B6 (K5 _ _) (D9 B6 (K5 _ _) (D9 B6 (K5 _ _) H7)))))) rfl rfl) ?_
 refine J7 [0] rfl rfl rfl rfl Tryz.call74 rfl (k5 _ _ hcode _ ([(0), (0), (3), (10), (100000), (-1)] : List Int) (by decide) (by omega)) (A7 (A0 rfl) (A7 (A0 rfl) C6)) rfl ?_
 intro x13 ok13
 refine A1 rfl (O0 (places := #[(0, 1)]) rfl L5 Tryz.zeroValue52 (fun w => by kernel_rfl) rfl (D9 (A0 rfl) (K5 _ _) H7) rfl) ?_
 refine A5 rfl ?_
 refine D6 2 rfl rfl rfl (A0 rfl) (A0 rfl) (E7 _) rfl M1 rfl ?_
 refine B5 rfl ?_
 refine A4 ?_
 refine C5 ?_
 (refine N5 [1] ((x13.2, x10.2.1, x10.2.2)) ?_ rfl (by first | (dsimp only; rfl) | rfl) (W6 rfl (by decide) (F4 (L1 (ys := _) 2 rfl rfl T2 M1 rfl) (F4 (C3 rfl (by rfl)) M5))); exact ok10.2)
theorem AT9 (code : List Int) (hcode : ByteL code) : GSpec Tryz.prog 33 [bytesI code] [] (fun x : Int × List TState => x.2.length ≤ 5 ∧ ∀ s ∈ x.2, s.size ≤ 40000) (fun x => []) (fun x => AV.tup [AV.agg [AV.int x.1], AV.list 4 (x.2.map TState.cs)]) :=
  AQ1 (fun x => (x.1, x.2.1)) (fun x => [.arr x.2.2 43 4 (x.2.1.map TState.cs)]) (fun x => []) (AP2 code hcode) (fun _ h => h) (fun x _ => AK4 (H2 M4 (H2 (N1 (List.mem_singleton.2 rfl) J4) V4))) (fun x _ => List.Perm.refl _) (fun _ _ => R5) (fun x _ => oc_nil)
end Go.Proofs.YtkegepoihkhihaaGreat

set_option maxHeartbeats 1000000
namespace Go.Proofs.YtkegepoihkhihaaGreat
open Go Go.AV Go.M
attribute [local irreducible] OpW OpA OpS AWP FSpec ESpec GSpec OpE RetOk RetOkG RvDen Le Ev GuardIs SrcIs Int.tmod Int.tdiv IntKind.wrap bandI
end Go.Proofs.YtkegepoihkhihaaGreat

namespace Go.Proofs.YtkegepoihkhihaaGreat
open Go Go.AV Go.M
attribute [local irreducible] OpW OpA OpS AWP FSpec ESpec GSpec OpE RetOk RetOkG RvDen Le Ev GuardIs SrcIs Int.tmod Int.tdiv IntKind.wrap bandI
theorem BC2 (code : List Int) : FSpec Tryz.prog 28 [bytesI code] (AV.bool (decide (65536 < (code.length : Int)))) := by
 refine E5 Tryz.func28 rfl Tryz.ntmps28 rfl ?_
 refine U1 (t := 0) rfl fun hl0 => ?_
 try simp only [A8] at hl0
 refine A3 (A2 ?_)
 refine A1 rfl (B7 rfl F5) ?_
 refine A4 (A3 (A2 ?_))
 refine A5 rfl ?_
 refine A1 rfl (G9 rfl W7 (A0 rfl)) ?_
 refine A1 rfl (O5 rfl (A0 rfl) B6) ?_
 refine B5 rfl ?_
 refine A4 ?_
 refine C5 ?_
 exact H5 rfl (C3 rfl (by (refine congrArg AV.bool ?_; simp only [A8])))
theorem AR4 (a b : List TFeedItem) : FSpec Tryz.prog 30 [AV.list 5 (a.map TFeedItem.cs), AV.list 5 (b.map TFeedItem.cs)] (AV.bool (decide (a = b))) := by
 refine E5 Tryz.func30 rfl Tryz.ntmps30 rfl ?_
 refine U1 (t := 0) rfl fun hl => ?_
 try simp only [A8] at hl
 refine U1 (t := 1) rfl fun hl2 => ?_
 try simp only [A8] at hl2
 refine A3 (A2 ?_)
 refine A1 rfl (B7 rfl F5) ?_
 refine A4 (A3 (A3 (A2 ?_)))
 refine A5 rfl ?_
 refine A1 rfl (G9 rfl F3 (A0 rfl)) ?_
 refine A5 rfl ?_
 refine A1 rfl (G9 rfl F3 (A0 rfl)) ?_
 refine A1 rfl (y9 rfl (A0 rfl) (A0 rfl)) ?_
 refine A4 ?_
 refine C4 (A0 rfl) ?_ ?_
 ·intro h10
  have k10 := u7 h10; try simp only [A8] at k10
  have hne : decide (a = b) = false := decide_eq_false fun e => by (subst e; omega)
  rw [hne]
  refine A3 (A2 ?_)
  refine A1 rfl (B7 rfl F5) ?_
  refine A4 ?_
  refine C5 ?_
  exact H5 rfl (C3 rfl (by rfl))
 intro h10
 have k10 := c4 h10; try simp only [A8] at k10
 refine C7 (A3 (A3 (A2 ?_)))
 refine A1 rfl (B7 rfl B6) ?_
 refine A4 (C8 ?_)
 refine J1 [(0, _), (1, _)] _ (fun (i : Nat) => i ≤ a.length ∧ a.take i = b.take i) (fun (i : Nat) => []) (fun (i : Nat) => [(5, AV.int i)]) (fun (i : Nat) => a.length - i) (0) ?_ (K0 ⟨rfl, rfl, rfl, trivial⟩) ?_
 ·exact ⟨Nat.zero_le _, rfl⟩
 intro i hinv
 refine A3 (A3 (A2 ?_))
 refine A5 rfl ?_
 refine A5 rfl ?_
 refine A1 rfl (G9 rfl F3 (A0 rfl)) ?_
 refine A1 rfl (J6 rfl (A0 rfl) (A0 rfl)) ?_
 refine A4 ?_
 refine C4 (A0 rfl) ?_ ?_
 ·intro h14
  have k14 := of_decide_eq_true h14; try simp only [A8] at k14
  have hlt : i < a.length := by omega
  obtain ⟨x, hx⟩ := get_some hlt
  obtain ⟨y, hy⟩ := get_some (show i < b.length by omega)
  refine C7 (A3 (C8 (A3 ?_)))
  refine I8 (by kernel_rfl) (by kernel_rfl) rfl ?_
  refine B2 rfl rfl (C1 rfl (A0 rfl)) ?_
  refine B2 rfl rfl (C1 rfl (A0 rfl)) ?_
  refine B2 rfl rfl (I9 rfl F3 H9 (A0 rfl) (A0 rfl) hx (by first | omega | (simp only [D3, A9, szR] at *; omega))) ?_
  refine B2 rfl rfl (K6 rfl (A0 rfl) T1 H9) ?_
  refine B2 rfl rfl (C1 rfl (A0 rfl)) ?_
  refine B2 rfl rfl (C1 rfl (A0 rfl)) ?_
  refine B2 rfl rfl (I9 rfl F3 H9 (A0 rfl) (A0 rfl) hy (by first | omega | (simp only [D3, A9, szR] at *; omega))) ?_
  refine B2 rfl rfl (K6 rfl (A0 rfl) T1 H9) ?_
  refine B2 rfl rfl (w_aneq rfl K7 (by kernel_rfl) (by kernel_rfl) (A0 rfl) (A0 rfl) (X4 (by kernel_rfl) B9 rfl rfl (n9 P5) (X4 (by kernel_rfl) B9 rfl rfl (n9 P5) (X4 (by kernel_rfl) G5 rfl rfl (AN9 M9) (X4 (by kernel_rfl) G5 rfl rfl (AN9 M9) (X4 (by kernel_rfl) L8 rfl rfl (Ak0 Z5) AA4)))))) ?_
  refine P1 ?_
  refine C4 (A0 rfl) ?_ ?_
  ·intro h25
   have hne : decide (a = b) = false := decide_eq_false fun e => by (subst e; rw [hx] at hy; injection hy with hy; rw [s5] at h25; simp [hy] at h25)
   rw [hne]
   refine A3 (A2 ?_)
   refine A1 rfl (B7 rfl F5) ?_
   refine A4 ?_
   refine C5 ?_
   exact H5 rfl (C3 rfl (by rfl))
  intro h25
  refine C7 (A2 ?_)
  refine A5 rfl ?_
  refine A1 rfl (G8 rfl (A0 rfl) B6 (by first | omega | (simp only [D3, A9, szR] at *; omega))) ?_
  refine B5 rfl ?_
  refine A4 ?_
  refine L4 i (i + 1) ?_ ?_ (K0 ⟨rfl, rfl, rfl, trivial⟩)
  ·exact ⟨by omega, by rw [List.take_add_one, List.take_add_one, hinv.2, hx, hy]; congr 2; rw [s5] at h25; simpa using h25⟩
  omega
 intro h14
 have k14 := of_decide_eq_false h14; try simp only [A8] at k14
 have hyes : decide (a = b) = true := decide_eq_true (by have h9 := hinv.2; rw [List.take_of_length_le (by omega), List.take_of_length_le (by omega)] at h9; exact h9)
 rw [hyes]
 refine G6 ?_
 refine A3 (A2 ?_)
 refine A1 rfl (B7 rfl F5) ?_
 refine A4 ?_
 refine C5 ?_
 exact H5 rfl (C3 rfl (by rfl))
end Go.Proofs.YtkegepoihkhihaaGreat

namespace Go.M
open Go.AV
theorem next_len {d : Int} {l : List TState} (h : (nextR d l).2.2 = true) : (nextR d l).2.1.length ≤ 400 := by
  obtain ⟨r, h1, h2, h3, h4⟩ := AD9 h
  obtain ⟨a1, a2, a3⟩ := g6.1 h2
  obtain ⟨_, _, m3⟩ := AI7 (k6 a3) a2 h3
  rw [h4]
  exact ((X1 r).1 m3).2.2
end Go.M
namespace Go.Proofs.YtkegepoihkhihaaGreat
open Go Go.AV Go.M
open Go.ChangeShapes Go.WideShapes Go.ChangeAt Go.RowKit
section
attribute [local irreducible] OpW OpA OpS AWP FSpec ESpec GSpec OpE RetOk RetOkG RvDen Le Ev GuardIs SrcIs
theorem s6 (d : Int) (l : List TState) (hs : ∀ s ∈ l, s.size ≤ 1048576) : FSpec Tryz.prog 25 [AV.agg [AV.int d], AV.list 4 (l.map TState.cs)] (AV.tup [AV.agg [AV.int (nextR d l).1], AV.list 5 ((nextR d l).2.1.map TFeedItem.cs), AV.bool (nextR d l).2.2]) :=
  T3 (Ao6 d l hs) fun v _ => AK4 (H2 M4 (H2 (N1 (List.mem_singleton.2 rfl) J4) (H2 M4 V4)))
theorem Aa9 (d : Int) (l : List TState) (hs : ∀ s ∈ l, s.size ≤ 1048576) (h : (nextR d l).2.2 = true) : FSpec Tryz.prog 25 [AV.agg [AV.int (nextR d l).1], AV.list 4 (l.map TState.cs)] (AV.tup [AV.agg [AV.int (nextR d l).1], AV.list 5 [], AV.bool true]) := by
  have h1 := s6 (nextR d l).1 l hs
  rw [Ax7 h] at h1
  exact h1
theorem Ai6 (code : List Int) (hc : ∀ x ∈ code, (Lit.int .u8 x).wf = true) : FSpec Tryz.prog 7 [bytesI code] (AV.bool true) := by
 refine E5 Tryz.func7 rfl Tryz.ntmps7 rfl ?_
 refine A3 (A2 ?_)
 refine A1 rfl (B7 rfl F5) ?_
 refine A4 (A3 (A3 (A2 ?_)))
 refine A5 rfl ?_
 refine A1 rfl (E4 rfl Tryz.call28 rfl (BC2 _) (A7 (A0 rfl) C6)) ?_
 refine A4 ?_
 refine C4 (A0 rfl) ?_ ?_
 ·intro h20
  refine A3 (A2 ?_)
  refine A1 rfl (B7 rfl F5) ?_
  refine A4 ?_
  refine C5 ?_
  exact H5 rfl (C3 rfl (by first | rfl | exact congrArg AV.bool (by by_cases hd : d ≤ sureL l; (obtain ⟨e1, e2⟩ := n3 hd; simp [n1, e1, e2, hd]); (have e := n2 (by omega); simp [n1, e]; omega))))
 intro h20
 have hb0 : ByteL code := byteL_of hc
 refine C7 (A3 (A2 ?_))
 refine A5 rfl ?_
 refine J7 [] rfl rfl rfl rfl Tryz.call33 rfl (AT9 code hb0) (A7 (A0 rfl) C6) rfl ?_
 intro x23 ok23
 obtain ⟨⟨d, l⟩, hx23⟩ : ∃ z, x23 = z := ⟨_, rfl⟩
 subst hx23
 obtain ⟨hl, hs0⟩ := ok23
 dsimp only at hl hs0 ⊢
 have hsm : ∀ s ∈ l, s.size ≤ 1048576 := fun s hm => Nat.le_trans (hs0 s hm) (by decide)
 refine A5 rfl ?_
 refine A1 rfl (H8 rfl (A0 rfl) rfl) ?_
 refine A1 rfl (H8 rfl (A0 rfl) rfl) ?_
 refine F9 rfl rfl rfl rfl Tryz.zeroValue52 rfl ?_
 intro b3
 refine D6 0 rfl rfl rfl (A0 rfl) (A0 rfl) (E7 _) rfl M1 rfl ?_
 refine B5 rfl ?_
 refine A4 (A3 (A2 ?_))
 refine A1 rfl (F7 0 rfl (A0 rfl) rfl T2 M1 rfl) ?_
 refine A5 rfl ?_
 refine A1 rfl (E4 rfl Tryz.call25 rfl (s6 d l hsm) (A7 (A0 rfl) (A7 (A0 rfl) C6))) ?_
 refine A5 rfl ?_
 refine A1 rfl (H8 rfl (A0 rfl) rfl) ?_
 refine A1 rfl (H8 rfl (A0 rfl) rfl) ?_
 refine A1 rfl (H8 rfl (A0 rfl) rfl) ?_
 refine F9 rfl rfl rfl rfl Tryz.zeroValue52 rfl ?_
 intro b5
 refine D6 0 rfl rfl rfl (A0 rfl) (A0 rfl) (E7 _) rfl M1 rfl ?_
 refine B5 rfl ?_
 refine B5 rfl ?_
 refine A4 (A3 (A3 (A2 ?_)))
 refine A1 rfl (F7 1 rfl (A0 rfl) rfl T2 M1 rfl) ?_
 refine A5 rfl ?_
 refine A1 rfl (E4 rfl Tryz.call23 rfl (Aa8 d l hsm) (A7 (A0 rfl) (A7 (A0 rfl) C6))) ?_
 refine A5 rfl ?_
 refine A1 rfl (H8 rfl (A0 rfl) rfl) ?_
 refine A1 rfl (H8 rfl (A0 rfl) rfl) ?_
 refine A1 rfl (H8 rfl (A0 rfl) rfl) ?_
 refine F9 rfl rfl rfl rfl Tryz.zeroValue52 rfl ?_
 intro b8
 refine D6 0 rfl rfl rfl (A0 rfl) (A0 rfl) (E7 _) rfl M1 rfl ?_
 refine B5 rfl ?_
 refine B5 rfl ?_
 refine A4 (A3 (A2 ?_))
 refine A5 rfl ?_
 refine A5 rfl ?_
 refine A1 rfl (w_bneq rfl Z5 (A0 rfl) (A0 rfl)) ?_
 refine A5 rfl ?_
 refine J5 rfl (fun hc => F7 1 rfl (A0 rfl) rfl T2 M1 rfl) ?_
 refine J5 rfl (fun hc => F7 0 rfl (A0 rfl) rfl T2 M1 rfl) ?_
 refine J5 rfl (fun hc => w_aneq rfl L5 (by kernel_rfl) (by kernel_rfl) (A6 rfl hc) (A6 rfl hc) (X4 (by kernel_rfl) B9 rfl rfl (n9 P5) AA4)) ?_
 refine A1 rfl (T5 rfl (A0 rfl) (F6 rfl)) ?_
 refine A5 rfl ?_
 refine J5 rfl (fun hc => C1 rfl (A0 rfl)) ?_
 refine J5 rfl (fun hc => C1 rfl (A0 rfl)) ?_
 refine J5 rfl (fun hc => E4 rfl Tryz.call30 rfl (AR4 _ _) (A7 (A6 rfl hc) (A7 (A6 rfl hc) C6))) ?_
 refine J5 rfl (fun hc => M2 rfl (A6 rfl hc)) ?_
 refine A1 rfl (T5 rfl (A0 rfl) (F6 rfl)) ?_
 refine A4 ?_
 refine C4 (A0 rfl) ?_ ?_
 ·intro h53
  exfalso; simp at h53
 intro h53
 refine C7 (A3 (A3 (A2 ?_)))
 refine A5 rfl ?_
 refine A1 rfl (M2 rfl (A0 rfl)) ?_
 refine A4 ?_
 refine C4 (A0 rfl) ?_ ?_
 ·intro h55
  have he : nextR d l = (0, [], false) := next_not (by simpa using h55)
  rw [he]
  refine A3 (A2 ?_)
  refine A5 rfl ?_
  refine A1 rfl (G9 rfl F3 (A0 rfl)) ?_
  refine A1 rfl (P4 rfl (A0 rfl) B6) ?_
  refine A5 rfl ?_
  refine C9 rfl (fun hc => F7 1 rfl (A0 rfl) rfl T2 M1 rfl) ?_
  refine C9 rfl (fun hc => O0 (places := #[(0, 1)]) rfl L5 Tryz.zeroValue52 (fun w => by kernel_rfl) rfl H7 rfl) ?_
  refine C9 rfl (fun hc => AU6 rfl L5 (by kernel_rfl) (by kernel_rfl) (A6 rfl hc) (A6 rfl hc) (X4 (by kernel_rfl) B9 rfl rfl (n9 P5) AA4)) ?_
  refine A1 rfl (H6 rfl (A0 rfl) (F6 rfl)) ?_
  refine B5 rfl ?_
  refine A4 ?_
  refine C5 ?_
  exact H5 rfl (C3 rfl (by first | rfl | exact congrArg AV.bool (by by_cases hd : d ≤ sureL l; (obtain ⟨e1, e2⟩ := n3 hd; simp [n1, e1, e2, hd]); (have e := n2 (by omega); simp [n1, e]; omega))))
 intro h55
 have hok : (nextR d l).2.2 = true := (by simpa using h55)
 refine C7 (A3 (A2 ?_))
 refine A1 rfl (O0 (places := #[(0, 1)]) rfl L5 Tryz.zeroValue52 (fun w => by kernel_rfl) rfl H7 rfl) ?_
 refine A5 rfl ?_
 refine A1 rfl (E4 rfl Tryz.call25 rfl (s6 0 l hsm) (A7 (A0 rfl) (A7 (A0 rfl) C6))) ?_
 refine A5 rfl ?_
 refine A1 rfl (H8 rfl (A0 rfl) rfl) ?_
 refine A1 rfl (H8 rfl (A0 rfl) rfl) ?_
 refine A1 rfl (H8 rfl (A0 rfl) rfl) ?_
 refine F9 rfl rfl rfl rfl Tryz.zeroValue52 rfl ?_
 intro b11
 refine D6 0 rfl rfl rfl (A0 rfl) (A0 rfl) (E7 _) rfl M1 rfl ?_
 refine B5 rfl ?_
 refine B5 rfl ?_
 refine A4 (A3 (A3 (A2 ?_)))
 refine A5 rfl ?_
 refine A1 rfl (M2 rfl (A0 rfl)) ?_
 refine A4 ?_
 refine C4 (A0 rfl) ?_ ?_
 ·intro h72
  refine A3 (A2 ?_)
  refine A1 rfl (B7 rfl F5) ?_
  refine A4 ?_
  refine C5 ?_
  exact H5 rfl (C3 rfl (by first | rfl | exact congrArg AV.bool (by by_cases hd : d ≤ sureL l; (obtain ⟨e1, e2⟩ := n3 hd; simp [n1, e1, e2, hd]); (have e := n2 (by omega); simp [n1, e]; omega))))
 intro h72
 have hzk : (nextR 0 l).2.2 = true := (by simpa using h72)
 obtain ⟨n1, n2, n3⟩ := BB8 hok hzk
 have hz4 := next_len hzk
 refine C7 (A3 (A2 ?_))
 refine R7 rfl rfl rfl rfl F3 H9 ?_
 intro v73
 refine B5 rfl ?_
 refine A4 (A3 (A3 (A2 ?_)))
 refine A1 rfl (B7 rfl B6) ?_
 refine A4 (C8 ?_)
 refine O1 (by first | (simp only [zeroA, pick, S9, S6, S2, R9, S3, List.nil_append, T0, S7, List.append_nil, R6, List.take_zero, S0, List.drop_zero]; exact rfl) | exact rfl) ?_
 refine AWP.le (H4 [4, 3, 1, 0] rfl) ?_
 refine Q0 [(2, _), (3, _), (4, _), (5, _), (6, _), (11, _), (12, _)] _ (fun (i : Nat) (v : Value) => i ≤ (nextR 0 l).2.1.length) (fun (i : Nat) (v : Value) => [.box b3 52 [AV.int d], .box b5 52 [AV.int (nextR d l).1], .box b11 52 [AV.int (nextR 0 l).1], .arr v 63 5 ((((nextR 0 l).2.1.take i).filter fun x => decide (d < x.Time)).map TFeedItem.cs)]) (fun (i : Nat) (v : Value) => [(14, AV.is v), (15, AV.int i)]) (fun (i : Nat) (v : Value) => (nextR 0 l).2.1.length - i) (0) (v73) ?_ (P8 (by rfl) ⟨rfl, rfl, rfl, rfl, rfl, rfl, rfl, rfl, rfl, trivial⟩) ?_
 ·exact Nat.zero_le _
 intro i v hinv
 refine A3 (A3 (A2 ?_))
 refine A5 rfl ?_
 refine A5 rfl ?_
 refine A1 rfl (G9 rfl F3 (A0 rfl)) ?_
 refine A1 rfl (J6 rfl (A0 rfl) (A0 rfl)) ?_
 refine A4 ?_
 refine C4 (A0 rfl) ?_ ?_
 ·intro h77
  have k77 := of_decide_eq_true h77; try simp only [A8] at k77
  have hlt : i < (nextR 0 l).2.1.length := by (simpa using h77)
  obtain ⟨y, hx⟩ := get_some hlt
  have hfl : (((nextR 0 l).2.1.take i).filter fun x => decide (d < x.Time)).length ≤ i := Nat.le_trans (List.length_filter_le _ _) (List.length_take_le _ _)
  refine C7 (A3 (C8 (A3 ?_)))
  refine I8 (by kernel_rfl) (by kernel_rfl) rfl ?_
  refine B2 rfl rfl (C1 rfl (A0 rfl)) ?_
  refine B2 rfl rfl (C1 rfl (A0 rfl)) ?_
  refine B2 rfl rfl (I9 rfl F3 H9 (A0 rfl) (A0 rfl) hx (by first | omega | (simp only [D3, A9, szR] at *; omega))) ?_
  refine B2 rfl rfl (V1 rfl K7 rfl B3 (A0 rfl) rfl) ?_
  refine B2 rfl rfl (N4 rfl (A0 rfl) B9 rfl) ?_
  refine B2 rfl rfl (B1 0 rfl L5 rfl B3 (A0 rfl) rfl) ?_
  refine B2 rfl rfl (B0 0 rfl (A0 rfl) rfl B9 rfl) ?_
  refine B2 rfl rfl (O5 rfl (A0 rfl) (A0 rfl)) ?_
  refine P1 ?_
  refine C4 (A0 rfl) ?_ ?_
  ·intro h87
   have k87 := of_decide_eq_true h87; try simp only [A8] at k87
   refine A2 ?_
   refine A5 rfl ?_
   refine A5 rfl ?_
   refine A5 rfl ?_
   refine A1 rfl (I9 rfl F3 H9 (A0 rfl) (A0 rfl) hx (by first | omega | (simp only [D3, A9, szR] at *; omega))) ?_
   refine A1 rfl (K6 rfl (A0 rfl) T1 H9) ?_
   refine A1 rfl (L0 rfl F3 H9 Tryz.zeroValue63 rfl rfl rfl rfl (D9 (A0 rfl) (E7 _) H7) rfl rfl) ?_
   refine M0 (by' := 56) 3 rfl rfl rfl rfl F3 Tryz.type63 rfl rfl rfl rfl rfl rfl (A0 rfl) (A0 rfl) rfl (by first | omega | (simp only [D3, A9, szR] at *; omega)) ?_
   intro v94_1
   refine B5 rfl ?_
   refine A4 (A2 ?_)
   refine A5 rfl ?_
   refine A1 rfl (G8 rfl (A0 rfl) B6 (by first | omega | (simp only [D3, A9, szR] at *; omega))) ?_
   refine B5 rfl ?_
   refine A4 ?_
   refine O4 i v (i + 1) (v94_1) ?_ ?_ (Le.trans (H4 [0, 0, 0, 0] rfl) (P8 (by first | (rw [d9 hx, if_pos h87, List.map_append]; rfl) | (rw [d9 hx, if_neg (by rw [h87]; decide), List.append_nil]; rfl)) ⟨rfl, rfl, rfl, rfl, rfl, rfl, rfl, rfl, rfl, trivial⟩))
   ·exact (by omega)
   omega
  intro h87
  have k87 := of_decide_eq_false h87; try simp only [A8] at k87
  refine C7 (A2 ?_)
  refine A5 rfl ?_
  refine A1 rfl (G8 rfl (A0 rfl) B6 (by first | omega | (simp only [D3, A9, szR] at *; omega))) ?_
  refine B5 rfl ?_
  refine A4 ?_
  refine O4 i v (i + 1) (v) ?_ ?_ (Le.trans (H4 [0, 0, 0, 0] rfl) (P8 (by first | (rw [d9 hx, if_pos h87, List.map_append]; rfl) | (rw [d9 hx, if_neg (by rw [h87]; decide), List.append_nil]; rfl)) ⟨rfl, rfl, rfl, rfl, rfl, rfl, rfl, rfl, rfl, trivial⟩))
  ·exact (by omega)
  omega
 intro h77
 have k77 := of_decide_eq_false h77; try simp only [A8] at k77
 have hge : (nextR 0 l).2.1.length ≤ i := by (simpa using h77)
 rw [List.take_of_length_le hge]
 refine G6 ?_
 refine A3 (A2 ?_)
 refine A1 rfl (F7 1 rfl (A0 rfl) rfl T2 M1 rfl) ?_
 refine A5 rfl ?_
 refine A1 rfl (E4 rfl Tryz.call25 rfl (Aa9 d l hsm hok) (A7 (A0 rfl) (A7 (A0 rfl) C6))) ?_
 refine A5 rfl ?_
 refine A1 rfl (H8 rfl (A0 rfl) rfl) ?_
 refine A1 rfl (H8 rfl (A0 rfl) rfl) ?_
 refine A1 rfl (H8 rfl (A0 rfl) rfl) ?_
 refine F9 rfl rfl rfl rfl Tryz.zeroValue52 rfl ?_
 intro b16
 refine D6 0 rfl rfl rfl (A0 rfl) (A0 rfl) (E7 _) rfl M1 rfl ?_
 refine B5 rfl ?_
 refine B5 rfl ?_
 refine A4 (A3 (A2 ?_))
 refine A1 rfl (F7 0 rfl (A0 rfl) rfl T2 M1 rfl) ?_
 refine A1 rfl (F7 2 rfl (A0 rfl) rfl T2 M1 rfl) ?_
 refine A1 rfl (AU6 rfl L5 (by kernel_rfl) (by kernel_rfl) (A0 rfl) (A0 rfl) (X4 (by kernel_rfl) B9 rfl rfl (n9 P5) AA4)) ?_
 refine A5 rfl ?_
 refine C9 rfl (fun hc => C1 rfl (A0 rfl)) ?_
 refine C9 rfl (fun hc => G9 rfl F3 (A6 rfl hc)) ?_
 refine C9 rfl (fun hc => P4 rfl (A6 rfl hc) B6) ?_
 refine A1 rfl (H6 rfl (A0 rfl) (F6 rfl)) ?_
 refine A5 rfl ?_
 refine C9 rfl (fun hc => B1 0 rfl L5 rfl B3 (A0 rfl) rfl) ?_
 refine C9 rfl (fun hc => B0 1 rfl (A6 rfl hc) rfl B9 rfl) ?_
 refine C9 rfl (fun hc => B1 0 rfl L5 rfl B3 (A0 rfl) rfl) ?_
 refine C9 rfl (fun hc => B0 3 rfl (A6 rfl hc) rfl B9 rfl) ?_
 refine C9 rfl (fun hc => O5 rfl (A6 rfl hc) (A6 rfl hc)) ?_
 refine C9 rfl (fun hc => C1 rfl (A6 rfl hc)) ?_
 refine H3 rfl rfl (E0 rfl rfl rfl) (fun hc => C1 rfl (A0 rfl)) ?_
 refine H3 rfl rfl (E0 rfl rfl rfl) (fun hc => G9 rfl F3 (A6 rfl hc)) ?_
 refine H3 rfl rfl (E0 rfl rfl rfl) (fun hc => P4 rfl (A6 rfl hc) B6) ?_
 refine C9 rfl (fun hc => H6 rfl (A6 rfl hc) (P7 rfl hc)) ?_
 refine C9 rfl (fun hc => C1 rfl (A6 rfl hc)) ?_
 refine H3 rfl rfl (N3 rfl rfl rfl) (fun hc => B1 0 rfl L5 rfl B3 (A0 rfl) rfl) ?_
 refine H3 rfl rfl (N3 rfl rfl rfl) (fun hc => B0 1 rfl (A6 rfl hc) rfl B9 rfl) ?_
 refine H3 rfl rfl (N3 rfl rfl rfl) (fun hc => B1 0 rfl L5 rfl B3 (A0 rfl) rfl) ?_
 refine H3 rfl rfl (N3 rfl rfl rfl) (fun hc => B0 3 rfl (A6 rfl hc) rfl B9 rfl) ?_
 refine H3 rfl rfl (N3 rfl rfl rfl) (fun hc => U7 rfl (A6 rfl hc) (A6 rfl hc)) ?_
 refine H3 rfl rfl (N3 rfl rfl rfl) (fun hc => C1 rfl (A6 rfl hc)) ?_
 refine H3 rfl rfl (E0 rfl rfl rfl) (fun hc => F7 3 rfl (A0 rfl) rfl T2 M1 rfl) ?_
 refine H3 rfl rfl (E0 rfl rfl rfl) (fun hc => F7 2 rfl (A0 rfl) rfl T2 M1 rfl) ?_
 refine H3 rfl rfl (E0 rfl rfl rfl) (fun hc => AU6 rfl L5 (by kernel_rfl) (by kernel_rfl) (A6 rfl hc) (A6 rfl hc) (X4 (by kernel_rfl) B9 rfl rfl (n9 P5) AA4)) ?_
 refine H3 rfl rfl (N3 rfl rfl rfl) (fun hc => H6 rfl (A6 rfl hc) (P7 rfl hc)) ?_
 refine H3 rfl rfl (N3 rfl rfl rfl) (fun hc => C1 rfl (A6 rfl hc)) ?_
 refine H3 rfl rfl (E0 rfl rfl rfl) (fun hc => C1 rfl (A0 rfl)) ?_
 refine H3 rfl rfl (E0 rfl rfl rfl) (fun hc => C1 rfl (A0 rfl)) ?_
 refine H3 rfl rfl (E0 rfl rfl rfl) (fun hc => g8 rfl Tryz.call30 rfl (AR4 _ _) (D0 _) (Q4 (evb (A6 rfl hc)) (Q4 (AN8 4 (A6 rfl hc) rfl) X3))) ?_
 refine H3 rfl rfl (N3 rfl rfl rfl) (fun hc => H6 rfl (A6 rfl hc) (P7 rfl hc)) ?_
 refine C9 rfl (fun hc => T5 rfl (A6 rfl hc) (P7 rfl hc)) ?_
 refine A1 rfl (H6 rfl (A0 rfl) (F6 rfl)) ?_
 refine B5 rfl ?_
 refine A4 ?_
 refine C5 ?_
 exact H5 rfl (C3 rfl (by first | rfl | exact congrArg AV.bool (by by_cases hd : d ≤ sureL l; (obtain ⟨e1, e2⟩ := n3 hd; simp [n1, e1, e2, hd]); (have e := n2 (by omega); simp [n1, e]; omega))))
end
theorem Ar7 : Opens Tryz.prog 59 (List Int) (fun l => [bytesI l]) (fun l => ∀ x ∈ l, (Lit.int .u8 x).wf = true) := Aq9 (sz := 1) W7 (by kernel_rfl) (BA9 Tryz.underlying5) (fun _ => rfl)
set_option maxRecDepth 100000 in
theorem fnRefeed_lifted (os : Os) (started : os.Started) (H : Type) (enc : TypeId × Value → H) :
    ReturnsInHanded {} Tryz.checked os 7 .any (Rows.fnRefeedSpec.pre6 enc Tryz.prog Tryz.f7 Rows.fnRefeedRow.domain false) (Rows.fnRefeedSpec.post enc Tryz.prog Tryz.f7 false true false false) := by
  refine returnsInHanded_of_change (C := Tryz.checked) (by kernel_rfl) started (by kernel_rfl) Tryz.func7
    (ChangeSpec.witness6 (enc := enc) (C := Tryz.checked) false ⟨#[], #[.slice none 0 0], []⟩ 8 (by kernel_rfl) (by kernel_rfl) (by kernel_rfl) (by kernel_rfl)) ?_
  intro W base args ds gs before hval0 hW hcnd _
  have hval : ∀ (j : Nat) t v, Tryz.f7.params[j]? = some t → args[j]? = some v → Value.okWide Tryz.prog W .any base t v := hval0
  have hW2 := hW
  obtain ⟨p, q, hA0, hV, rfl, hfz, hnd⟩ := hW
  have hA : DataW.TrodAll enc Tryz.prog W 0 (fun _ => true) true Tryz.f7.params.toList args.toList ds p := hA0
  rw [Tryz.params7] at hA hval
  obtain ⟨v0, vs0, d0, ds0, p0, q0, hargs, rfl, rfl, h0, r0⟩ := trodAll_cons hA
  obtain ⟨rfl, rfl, rfl⟩ := trodAll_nil r0
  obtain rfl : args = #[v0] := by cases args; simp_all
  obtain ⟨rfl, rfl⟩ := trodVars_none hV
  have lt0 : ∀ x ∈ p0, x.block < W.heap.size := by obtain ⟨m, hm⟩ := h0; exact DataW.trod_lt m _ _ _ hm
  obtain ⟨a0, w0, g0⟩ := arg_one (Ar7) (by obtain ⟨y1, y2, y3, rfl⟩ := okWide_slice W7 (hval 0 59 v0 rfl rfl); rfl) h0
  have hcall := BB0 (Ai6 a0 w0) (DenV.cons g0 (DenV.nil _))
  clear hA0 hval0
  refine Calls.mono hcall fun e W2 ⟨he, bel⟩ => ?_
  subst he
  exact ⟨_, rfl, _, _, _, [], _, [], hW2, trodAll_mk1 (shut_bool Z5 _), (trodAll_cons_mk (Below.trod (by kernel_rfl : laidOutB Tryz.prog = true) (by kernel_rfl) (of_decide_eq_true (by kernel_rfl)) h0 bel lt0) trodAll_mk0), rfl, bel.frame _, fun h => by cases h⟩
theorem Ao8 {a b : Bool} (h : a = true) (k : b = true) : (a && b) = true := by rw [h, k]; rfl
set_option maxRecDepth 100000 in
theorem Ab0 : joinedFacts Tryz.pinned.checked.prog 7 Tryz.f7 Rows.fnRefeedSpec Rows.fnRefeedRow = true := by
  unfold joinedFacts
  iterate 18 (rw [Bool.and_assoc])
  refine Ao8 ?_ ?_
  · as_aux_lemma => kernel_rfl
  · as_aux_lemma => kernel_rfl
theorem fnRefeed_proved : Rows.FnRefeedSaid :=
  OpenClaim.holds_of_wide 7 Tryz.f7 rfl rfl rfl rfl rfl rfl rfl ⟨rfl, rfl, rfl, rfl, rfl⟩ rfl rfl rfl rfl rfl (by kernel_rfl) Tryz.func7 Ab0
    (of_decide_eq_true (by kernel_rfl)) (by unfold Func.isWrapper; first | (rw [if_pos (by decide +kernel)]; kernel_rfl) | (rw [if_neg (by decide +kernel)]; exact ⟨rfl, rfl⟩))
    (fun os started H enc _ => fnRefeed_lifted os started H enc)
end Go.Proofs.YtkegepoihkhihaaGreat
