/- Texts of the claim, part 5. -/
import Derived.Test.YtoaoicnnimjbeaaGreatZShares4

set_option linter.unusedVariables false
set_option linter.unusedSimpArgs false
set_option maxRecDepth 100000
set_option maxHeartbeats 1000000
namespace Go.M
open Go.AV
theorem Am4 {h : THeld} : ∀ {l : List THeld} {p : Nat}, p ≤ l.length → (∀ i x, i < p → l[i]? = some x → x.Txn ≤ h.Txn) → (∀ x, l[p]? = some x → h.Txn < x.Txn) → insH h l = l.take p ++ h :: l.drop p
  | [], p, hp, _, _ => by simp at hp; subst hp; rfl
  | g :: l, 0, _, _, h2 => by unfold insH; rw [if_pos (h2 g rfl)]; rfl
  | g :: l, p + 1, hp, h1, h2 => by
    unfold insH
    rw [if_neg (by have := h1 0 g (by omega) rfl; omega), Am4 (by simpa using hp) (fun i x hi hx => h1 (i + 1) x (by omega) (by simpa using hx)) (fun x hx => h2 x (by simpa using hx))]
    rfl
theorem Am5 {h : TTold} : ∀ {l : List TTold} {p : Nat}, p ≤ l.length → (∀ i x, i < p → l[i]? = some x → x.Txn ≤ h.Txn) → (∀ x, l[p]? = some x → h.Txn < x.Txn) → insT h l = l.take p ++ h :: l.drop p
  | [], p, hp, _, _ => by simp at hp; subst hp; rfl
  | g :: l, 0, _, _, h2 => by unfold insT; rw [if_pos (h2 g rfl)]; rfl
  | g :: l, p + 1, hp, h1, h2 => by
    unfold insT
    rw [if_neg (by have := h1 0 g (by omega) rfl; omega), Am5 (by simpa using hp) (fun i x hi hx => h1 (i + 1) x (by omega) (by simpa using hx)) (fun x hx => h2 x (by simpa using hx))]
    rfl
def THeld.ocs (h : THeld) (x : Value × Value) : List AV := [AV.int h.Txn, AV.int h.Time, AV.int h.Lead, AV.is x.1, AV.is x.2]
def TState.ocs (s : TState) (x : Value × Value) : List AV := [AV.int s.Floor, AV.list 2 (s.Cells.map TCell.cs), AV.is x.1, AV.is x.2]
def appR (s : TState) (r : TRec) : TState × Bool := if (applyS s r).2 = true then ((applyS s r).1, true) else (zState, false)
end Go.M
namespace Go.Proofs.YtoaoicnnimjbeaaGreat
open Go Go.AV Go.M
def THeld.ow (h : THeld) (x : Value × Value) : List Own := [.arr x.1 9 1 (h.Reads.map fun k => [AV.str k]), .arr x.2 79 3 (h.Writes.map TWrite.cs)]
def TState.ow (s : TState) (x : Value × Value) : List Own := [.arr x.1 130 5 (s.Held.map THeld.cs), .arr x.2 132 3 (s.Told.map TTold.cs)]
theorem THeld.lc (h : THeld) (x : Value × Value) : LendC (THeld.ow h x) (THeld.ocs h x) h.cs :=
  G4 M4 (G4 M4 (G4 M4 (G4 (M8 (F9 (i := 0) rfl) I7) (G4 (M8 (F9 (i := 1) rfl) I7) U3))))
theorem TState.lc (s : TState) (x : Value × Value) : LendC (TState.ow s x) (TState.ocs s x) s.cs :=
  G4 M4 (G4 M4 (G4 (M8 (F9 (i := 0) rfl) I7) (G4 (M8 (F9 (i := 1) rfl) I7) U3)))
attribute [local irreducible] OpW OpA OpS AWP FSpec ESpec GSpec OpE RetOk RetOkG RvDen Le Ev GuardIs SrcIs Int.tmod Int.tdiv IntKind.wrap
theorem Af1 (l : List TCell) (hs : sizeL TCell.size l ≤ 4194304) : FSpec Tryz.prog 124 [AV.list 2 (l.map TCell.cs)] (AV.list 2 (l.map TCell.cs)) :=
  Q5 (Ap2 l hs) fun x h => AF2 TCell.lcM h 0 rfl fun o ho => List.mem_cons_of_mem _ ho
theorem BH9 (r : TRec) (hs : r.size ≤ 1048576) : GSpec Tryz.prog 164 [AV.agg r.cs] [] (fun _ : Value × Value => True) (fun x => THeld.ow (hOf r) x) (fun x => AV.agg (THeld.ocs (hOf r) x)) := by
 obtain ⟨hr1, hr2, hr3, hr4⟩ := AT9 hs
 refine H3 Tryz.func164 rfl Tryz.ntmps164 rfl ?_
 refine A3 (A2 ?_)
 refine N1 rfl rfl rfl rfl (A0 rfl) ?_
 intro b1
 refine F5 rfl rfl rfl rfl Tryz.zeroValue130 rfl ?_
 intro b2
 refine A4 (A3 ?_)
 refine V3 _ [(0, false), (1, false), (2, false), (3, false), (4, false), (5, false), (6, false), (7, false), (9, false), (10, false), (8, true), (11, true)] (by kernel_rfl) (by kernel_rfl) rfl i6 ?_
 refine H7 rfl rfl rfl (fun ext => B1 1 rfl B7 rfl B5 (A0 rfl) rfl) ?_
 refine H7 rfl rfl rfl (fun ext => B0 1 rfl (A0 rfl) rfl C6 rfl) ?_
 refine H7 rfl rfl rfl (fun ext => B1 2 rfl B7 rfl B5 (A0 rfl) rfl) ?_
 refine H7 rfl rfl rfl (fun ext => B0 1 rfl (A0 rfl) rfl C6 rfl) ?_
 refine H7 rfl rfl rfl (fun ext => B1 3 rfl B7 rfl B5 (A0 rfl) rfl) ?_
 refine H7 rfl rfl rfl (fun ext => B0 1 rfl (A0 rfl) rfl C6 rfl) ?_
 refine H7 rfl rfl rfl (fun ext => B1 4 rfl B7 rfl H5 (A0 rfl) rfl) ?_
 refine H7 rfl rfl rfl (fun ext => B0 1 rfl (A0 rfl) rfl K7 rfl) ?_
 refine H7 rfl rfl rfl (fun ext => B1 5 rfl B7 rfl L0 (A0 rfl) rfl) ?_
 refine H7 rfl rfl rfl (fun ext => B0 1 rfl (A0 rfl) rfl M3 rfl) ?_
 refine V4 rfl rfl rfl (Y0 [] rfl Tryz.call86 rfl (t6 _ (by first | assumption | omega)) (A6 (A0 rfl) C0) rfl) (fun a _ => (by first | exact E1 rfl | exact E1 (List.append_assoc _ _ _) | exact H6)) ?_
 intro x11 ok11
 refine V4 rfl rfl rfl (Y0 [] rfl Tryz.call127 rfl (AG8 _ (by first | assumption | omega)) (A6 (A0 rfl) C0) rfl) (fun a _ => (by first | exact E1 rfl | exact E1 (List.append_assoc _ _ _) | exact H6)) ?_
 intro x14 ok14
 refine l4 ?_
 refine T8 2 rfl fun one_x11 => ?_
 refine T8 3 rfl fun one_x14 => ?_
 refine A1 rfl (N5 (places := #[(0, 1), (1, 1), (2, 1), (3, 1), (4, 1)]) rfl G2 Tryz.zeroValue130 (fun w => by kernel_rfl) rfl (D0 (A0 rfl) (L8 _ _) (D0 (A0 rfl) (L8 _ _) (D0 (A0 rfl) (L8 _ _) (D0 (A0 rfl) (U2 one_x11) (D0 (A0 rfl) (U2 one_x14) G9))))) rfl) ?_
 refine D2 0 rfl rfl rfl (A0 rfl) (A0 rfl) (D6 _) rfl D5 rfl ?_
 refine A4 ?_
 refine C2 ?_
 exact L5 [2, 2] (x11, x14) (trivial) rfl (by rfl) (P0 rfl (J9 (ys := _) 0 rfl rfl K3 D5 rfl))
theorem BA0 (r : TRec) (hs : r.size ≤ 1048576) : FSpec Tryz.prog 164 [AV.agg r.cs] (AV.agg (hOf r).cs) :=
  Q5 (BH9 r hs) fun x _ => Z5 (THeld.lc _ x)
theorem AQ4 (h : THeld) (hs : h.size ≤ 1048576) : FSpec Tryz.prog 126 [AV.agg h.cs] (AV.agg h.cs) := by
 refine E2 Tryz.func126 rfl Tryz.ntmps126 rfl ?_
 refine A3 (A2 ?_)
 refine N1 rfl rfl rfl rfl (A0 rfl) ?_
 intro b1
 refine F5 rfl rfl rfl rfl Tryz.zeroValue130 rfl ?_
 intro b2
 refine A4 (A3 (A2 ?_))
 refine A1 rfl (F1 1 rfl (A0 rfl) rfl K3 D5 rfl) ?_
 refine A1 rfl (D7 rfl Tryz.call130 rfl (Au6 _) (A6 (A0 rfl) C0)) ?_
 refine A1 rfl (D7 rfl Tryz.call164 rfl (BA0 (hRec h) hs) (A6 (A0 rfl) C0)) ?_
 refine D2 0 rfl rfl rfl (A0 rfl) (A0 rfl) (D6 _) rfl D5 rfl ?_
 refine A4 ?_
 refine C2 ?_
 exact I3 rfl (J9 (ys := _) 0 rfl rfl K3 D5 rfl)
theorem Ap3 (s : TState) (hs : s.size ≤ 1048576) : GSpec Tryz.prog 87 [AV.agg s.cs] [] (fun _ : Value × Value => True) (fun x => TState.ow s x) (fun x => AV.agg (TState.ocs s x)) := by
 obtain ⟨hs1, hs2, hs3, hs4, hs5⟩ := X0 hs
 refine H3 Tryz.func87 rfl Tryz.ntmps87 rfl ?_
 refine A3 (A2 ?_)
 refine N1 rfl rfl rfl rfl (A0 rfl) ?_
 intro b1
 refine F5 rfl rfl rfl rfl Tryz.zeroValue53 rfl ?_
 intro b2
 refine A4 (A3 ?_)
 refine Q2 _ 10 (.pure 0 (.pure 1 (.pure 2 (.pure 3 (.pure 4 (.pure 5 (.pure 6 (.e2 7 (.pure 8 (.e1 9 .nil)) 9 (.e1 7 (.pure 8 .nil)))))))))) (by kernel_rfl) (by kernel_rfl) rfl i6 ?_
 refine D4 rfl rfl rfl (fun ext => B1 0 rfl C4 rfl B5 (A0 rfl) rfl) ?_
 refine D4 rfl rfl rfl (fun ext => B0 1 rfl (A0 rfl) rfl C6 rfl) ?_
 refine D4 rfl rfl rfl (fun ext => B1 1 rfl C4 rfl P6 (A0 rfl) rfl) ?_
 refine D4 rfl rfl rfl (fun ext => B0 1 rfl (A0 rfl) rfl S1 rfl) ?_
 refine D4 rfl rfl rfl (fun ext => D7 rfl Tryz.call124 rfl (Af1 s.Cells (by omega)) (A6 (A0 rfl) C0)) ?_
 refine D4 rfl rfl rfl (fun ext => B1 3 rfl C4 rfl O7 (A0 rfl) rfl) ?_
 refine D4 rfl rfl rfl (fun ext => B0 1 rfl (A0 rfl) rfl T0 rfl) ?_
 refine AD3 ?_ ?_
 ·refine S6 rfl rfl rfl (i9 2 (fun _ => rfl) (Y0 [] rfl Tryz.call125 rfl (AK7 _ (by first | assumption | omega)) (A6 (A0 rfl) C0) rfl)) (fun a _ => (by first | exact E1 rfl | exact E1 (List.append_assoc _ _ _) | exact H6)) ?_
  intro x13 ok13
  have one_x13 := ok13.2
  replace ok13 := ok13.1
  refine D4 rfl rfl rfl (fun ext => N5 (places := #[(0, 1), (1, 1), (2, 1), (3, 1)]) rfl C4 Tryz.zeroValue53 (fun w => by kernel_rfl) rfl (D0 (A0 rfl) (L8 _ _) (D0 (A0 rfl) (O9 _ _) (D0 (A0 rfl) (U2 one_x13) G9))) rfl) ?_
  refine T9 ?_
  refine S6 rfl rfl rfl (X4 rfl Tryz.zeroValue53 rfl) (fun a _ => (by first | exact E1 rfl | exact E1 (List.append_assoc _ _ _) | exact H6)) ?_
  intro b3 _
  refine W1 ?_
  refine D2 3 rfl rfl rfl (A0 rfl) (A0 rfl) (D6 _) rfl C5 rfl ?_
  refine A4 (A3 (A3 (A2 ?_)))
  refine A1 rfl (B1 2 rfl C4 rfl G8 (A0 rfl) rfl) ?_
  refine A1 rfl (B0 1 rfl (A0 rfl) rfl M5 rfl) ?_
  refine A1 rfl (F6 rfl E4 (A0 rfl)) ?_
  refine A1 rfl (B8 rfl B4) ?_
  refine A4 (C7 ?_)
  refine W5 130 5 ?_
  refine AWP.le (F8 [4, 0] rfl) ?_
  refine P3 [(2, _), (3, _), (16, _), (17, _)] _ (fun (i : Nat) (v : Value) => i ≤ s.Held.length) (fun (i : Nat) (v : Value) => [.box b3 53 [AV.int s.Floor, AV.list 2 (s.Cells.map TCell.cs), AV.is v, AV.is x13], .arr v 130 5 ((s.Held.take i).map THeld.cs)]) (fun (i : Nat) (v : Value) => [(18, AV.int i)]) (fun (i : Nat) (v : Value) => s.Held.length - i) (0) ((Value.slice none 0 0)) ?_ (O8 (by rfl) ⟨rfl, rfl, rfl, rfl, rfl, trivial⟩) ?_
  ·exact Nat.zero_le _
  intro i v hinv
  refine A3 (A2 ?_)
  refine A1 rfl (J8 rfl (A0 rfl) (A0 rfl)) ?_
  refine A4 (A3 ?_)
  refine B9 (A0 rfl) ?_ ?_
  ·intro h19
   have k19 := of_decide_eq_true h19; try simp only [A8] at k19
   have hlt : i < s.Held.length := by omega
   obtain ⟨h, hx⟩ := get_some hlt
   obtain ⟨g1, g2, g3, g4, g5⟩ := Y1 hs2 hx
   refine C3 (A3 (C7 (A3 (A2 ?_))))
   refine A1 rfl (I2 rfl E4 D5 (A0 rfl) (A0 rfl) hx (by first | omega | (simp only [C8, A7, szR] at *; omega))) ?_
   refine A1 rfl (K6 rfl (A0 rfl) K3 D5) ?_
   refine F5 rfl rfl rfl rfl Tryz.zeroValue130 rfl ?_
   intro b5
   refine D2 0 rfl rfl rfl (A0 rfl) (A0 rfl) (D6 _) rfl D5 rfl ?_
   refine A4 ?_
   refine S9 5 (by kernel_rfl) (by kernel_rfl) rfl ?_
   refine B2 rfl rfl (B1 2 rfl C4 rfl G8 (A0 rfl) rfl) ?_
   refine B2 rfl rfl (B0 1 rfl (A0 rfl) rfl M5 rfl) ?_
   refine B2 rfl rfl (F1 0 rfl (A0 rfl) rfl K3 D5 rfl) ?_
   refine B2 rfl rfl (D7 rfl Tryz.call126 rfl (AQ4 _ (by first | assumption | omega)) (A6 (A0 rfl) C0)) ?_
   refine B2 rfl rfl (K9 rfl E4 D5 Tryz.zeroValue130 rfl rfl rfl rfl (D0 (A0 rfl) (D6 _) G9) rfl rfl) ?_
   refine P7 ?_
   refine L2 (by' := 72) 2 rfl rfl rfl rfl E4 Tryz.type130 rfl rfl rfl rfl rfl rfl (A0 rfl) (A0 rfl) rfl (by simp only [A8, D9, A7]; omega) ?_
   intro v27_1
   refine A1 rfl (B1 2 rfl C4 rfl G8 (A0 rfl) rfl) ?_
   refine T8 2 rfl fun one_v27_1 => ?_
   refine K8 1 rfl rfl rfl (A0 rfl) (A0 rfl) (U2 one_v27_1) rfl G8 rfl ?_
   refine A4 (A2 ?_)
   refine A1 rfl (G0 rfl (A0 rfl) B4 (by first | omega | (simp only [C8, A7, szR] at *; omega))) ?_
   refine A5 rfl ?_
   refine A4 ?_
   refine O2 i v (i + 1) (v27_1) ?_ ?_ (Le.trans (F8 [0, 0, 0] rfl) (K0 1 (by exact congrArg (fun z => Own.box b3 53 [AV.int s.Floor, AV.list 2 (s.Cells.map TCell.cs), AV.is v27_1, AV.is x13] :: Own.arr v27_1 130 5 z :: _) (Y3 (f := THeld.cs) hx)) ⟨rfl, rfl, rfl, rfl, rfl, trivial⟩))
   ·omega
   omega
  intro h19
  have k19 := of_decide_eq_false h19; try simp only [A8] at k19
  have hge : i = s.Held.length := by omega
  rw [hge, List.take_length]
  refine G1 ?_
  refine A3 (A2 ?_)
  refine A1 rfl (F1 0 rfl (A0 rfl) rfl F0 C5 rfl) ?_
  refine D2 2 rfl rfl rfl (A0 rfl) (A0 rfl) (D6 _) rfl C5 rfl ?_
  refine A4 ?_
  refine C2 ?_
  exact L5 [1, 3] (v, x13) (trivial) rfl (by rfl) (P0 rfl (J9 (ys := _) 2 rfl rfl F0 C5 rfl))
 refine S6 rfl rfl rfl (X4 rfl Tryz.zeroValue53 rfl) (fun a _ => (by first | exact E1 rfl | exact E1 (List.append_assoc _ _ _) | exact H6)) ?_
 intro b3 _
 refine T9 ?_
 refine S6 rfl rfl rfl (i9 3 (fun _ => rfl) (Y0 [] rfl Tryz.call125 rfl (AK7 _ (by first | assumption | omega)) (A6 (A0 rfl) C0) rfl)) (fun a _ => (by first | exact E1 rfl | exact E1 (List.append_assoc _ _ _) | exact H6)) ?_
 intro x13 ok13
 have one_x13 := ok13.2
 replace ok13 := ok13.1
 refine D4 rfl rfl rfl (fun ext => N5 (places := #[(0, 1), (1, 1), (2, 1), (3, 1)]) rfl C4 Tryz.zeroValue53 (fun w => by kernel_rfl) rfl (D0 (A0 rfl) (L8 _ _) (D0 (A0 rfl) (O9 _ _) (D0 (A0 rfl) (U2 one_x13) G9))) rfl) ?_
 refine W1 ?_
 refine D2 2 rfl rfl rfl (A0 rfl) (A0 rfl) (D6 _) rfl C5 rfl ?_
 refine A4 (A3 (A3 (A2 ?_)))
 refine A1 rfl (B1 2 rfl C4 rfl G8 (A0 rfl) rfl) ?_
 refine A1 rfl (B0 1 rfl (A0 rfl) rfl M5 rfl) ?_
 refine A1 rfl (F6 rfl E4 (A0 rfl)) ?_
 refine A1 rfl (B8 rfl B4) ?_
 refine A4 (C7 ?_)
 refine W5 130 5 ?_
 refine AWP.le (F8 [3, 0] rfl) ?_
 refine P3 [(2, _), (3, _), (16, _), (17, _)] _ (fun (i : Nat) (v : Value) => i ≤ s.Held.length) (fun (i : Nat) (v : Value) => [.box b3 53 [AV.int s.Floor, AV.list 2 (s.Cells.map TCell.cs), AV.is v, AV.is x13], .arr v 130 5 ((s.Held.take i).map THeld.cs)]) (fun (i : Nat) (v : Value) => [(18, AV.int i)]) (fun (i : Nat) (v : Value) => s.Held.length - i) (0) ((Value.slice none 0 0)) ?_ (O8 (by rfl) ⟨rfl, rfl, rfl, rfl, rfl, trivial⟩) ?_
 ·exact Nat.zero_le _
 intro i v hinv
 refine A3 (A2 ?_)
 refine A1 rfl (J8 rfl (A0 rfl) (A0 rfl)) ?_
 refine A4 (A3 ?_)
 refine B9 (A0 rfl) ?_ ?_
 ·intro h19
  have k19 := of_decide_eq_true h19; try simp only [A8] at k19
  have hlt : i < s.Held.length := by omega
  obtain ⟨h, hx⟩ := get_some hlt
  obtain ⟨g1, g2, g3, g4, g5⟩ := Y1 hs2 hx
  refine C3 (A3 (C7 (A3 (A2 ?_))))
  refine A1 rfl (I2 rfl E4 D5 (A0 rfl) (A0 rfl) hx (by first | omega | (simp only [C8, A7, szR] at *; omega))) ?_
  refine A1 rfl (K6 rfl (A0 rfl) K3 D5) ?_
  refine F5 rfl rfl rfl rfl Tryz.zeroValue130 rfl ?_
  intro b5
  refine D2 0 rfl rfl rfl (A0 rfl) (A0 rfl) (D6 _) rfl D5 rfl ?_
  refine A4 ?_
  refine S9 5 (by kernel_rfl) (by kernel_rfl) rfl ?_
  refine B2 rfl rfl (B1 2 rfl C4 rfl G8 (A0 rfl) rfl) ?_
  refine B2 rfl rfl (B0 1 rfl (A0 rfl) rfl M5 rfl) ?_
  refine B2 rfl rfl (F1 0 rfl (A0 rfl) rfl K3 D5 rfl) ?_
  refine B2 rfl rfl (D7 rfl Tryz.call126 rfl (AQ4 _ (by first | assumption | omega)) (A6 (A0 rfl) C0)) ?_
  refine B2 rfl rfl (K9 rfl E4 D5 Tryz.zeroValue130 rfl rfl rfl rfl (D0 (A0 rfl) (D6 _) G9) rfl rfl) ?_
  refine P7 ?_
  refine L2 (by' := 72) 2 rfl rfl rfl rfl E4 Tryz.type130 rfl rfl rfl rfl rfl rfl (A0 rfl) (A0 rfl) rfl (by simp only [A8, D9, A7]; omega) ?_
  intro v27_2
  refine A1 rfl (B1 2 rfl C4 rfl G8 (A0 rfl) rfl) ?_
  refine T8 2 rfl fun one_v27_2 => ?_
  refine K8 1 rfl rfl rfl (A0 rfl) (A0 rfl) (U2 one_v27_2) rfl G8 rfl ?_
  refine A4 (A2 ?_)
  refine A1 rfl (G0 rfl (A0 rfl) B4 (by first | omega | (simp only [C8, A7, szR] at *; omega))) ?_
  refine A5 rfl ?_
  refine A4 ?_
  refine O2 i v (i + 1) (v27_2) ?_ ?_ (Le.trans (F8 [0, 0, 0] rfl) (K0 1 (by exact congrArg (fun z => Own.box b3 53 [AV.int s.Floor, AV.list 2 (s.Cells.map TCell.cs), AV.is v27_2, AV.is x13] :: Own.arr v27_2 130 5 z :: _) (Y3 (f := THeld.cs) hx)) ⟨rfl, rfl, rfl, rfl, rfl, trivial⟩))
  ·omega
  omega
 intro h19
 have k19 := of_decide_eq_false h19; try simp only [A8] at k19
 have hge : i = s.Held.length := by omega
 rw [hge, List.take_length]
 refine G1 ?_
 refine A3 (A2 ?_)
 refine A1 rfl (F1 0 rfl (A0 rfl) rfl F0 C5 rfl) ?_
 refine D2 2 rfl rfl rfl (A0 rfl) (A0 rfl) (D6 _) rfl C5 rfl ?_
 refine A4 ?_
 refine C2 ?_
 exact L5 [1, 3] (v, x13) (trivial) rfl (by rfl) (P0 rfl (J9 (ys := _) 2 rfl rfl F0 C5 rfl))
end Go.Proofs.YtoaoicnnimjbeaaGreat

namespace Go.M
open Go.AV
def settled (s : TState) : Int := s.Held.foldl (fun o h => min o (h.Time - 1)) s.Floor
structure Keeps (s s' : TState) : Prop where
  floor : s.Floor ≤ s'.Floor
  told : ∀ t ∈ s.Told, t ∈ s'.Told
  tlen : s.Told.length ≤ s'.Told.length
  settled : settled s ≤ settled s'
  cells : ∀ a, a ≤ M.settled s → cellsAt s'.Cells a = cellsAt s.Cells a
theorem Keeps.refl (s : TState) : Keeps s s := ⟨Int.le_refl _, fun _ h => h, Nat.le_refl _, Int.le_refl _, fun _ _ => rfl⟩
theorem Keeps.trans {a b c : TState} (h : Keeps a b) (k : Keeps b c) : Keeps a c :=
  ⟨Int.le_trans h.floor k.floor, fun t ht => k.told t (h.told t ht), Nat.le_trans h.tlen k.tlen, Int.le_trans h.settled k.settled, fun x hx => (k.cells x (Int.le_trans hx h.settled)).trans (h.cells x hx)⟩
theorem Av1 (c : TCell) (l : List TCell) (a : Int) : cellsAt (c :: l) a = (if (cellVal c a).2 = true then [⟨c.Key, (cellVal c a).1, false⟩] else []) ++ cellsAt l a := by
  unfold cellsAt
  rw [List.filterMap_cons]
  split
  · rename_i h; split at h
    · cases h
    · rename_i h2; rw [if_neg h2]; rfl
  · rename_i b h; split at h
    · rename_i h2; injection h with h; subst h; rw [if_pos h2]; rfl
    · cases h
end Go.M

namespace Go.M
open Go.AV
def applyRecR (s : TState) (r : TRec) : TState × Bool := if goodState s = true ∧ goodRec r = true then appR s r else (zState, false)
theorem AZ0 {s : TState} {l : List TRec} {i : Nat} {r : TRec} (h : l[i]? = some r) : stFrom s (l.take (i + 1)) = stepS (stFrom s (l.take i)) r := by
  unfold stFrom
  rw [List.take_add_one, h, List.foldl_append]; rfl
theorem AL4 : ∀ {l : List TRec} {s : TState} {r : TRec}, didFrom s (l ++ [r]) = didFrom s l ++ [(applyS (stFrom s l) r).2]
  | [], s, r => rfl
  | x :: l, s, r => by
    show _ :: didFrom (stepS s x) (l ++ [r]) = _
    rw [AL4]; rfl
theorem AU6 {s : TState} {l : List TRec} {i : Nat} {r : TRec} (h : l[i]? = some r) : didFrom s (l.take (i + 1)) = didFrom s (l.take i) ++ [(applyS (stFrom s (l.take i)) r).2] := by
  rw [List.take_add_one, h]; exact AL4
def phi (s : TState) : Nat := sizeL TCell.size s.Cells + 3 * sizeL THeld.size s.Held + s.Told.length
theorem Av2 (s : TState) : s.size ≤ phi s := by
  have h1 : s.size = sizeL TCell.size s.Cells + sizeL THeld.size s.Held + s.Told.length := rfl
  unfold phi; omega
theorem BI0 {α : Type} {f : α → Nat} {a b : List α} (h : a.Perm b) : sizeL f a = sizeL f b := by
  unfold sizeL; rw [h.length_eq, (h.map f).sum_nat]
theorem Av3 {t : Int} : ∀ {w : List TWrite} {l q : List TCell}, putAll l w t = some q → sizeL TCell.size q ≤ sizeL TCell.size l + 2 * sizeL TWrite.size w
  | [], l, q, h => by simp [putAll] at h; subst h; omega
  | x :: w, l, q, h => by
    unfold putAll at h
    split at h
    · cases h
    · have h1 := Av3 h
      have h2 := v8 l x t
      rw [N7]; omega
theorem BI1 {l : List THeld} {n : Int} {h : THeld} (hf : findH l n = some h) : sizeL THeld.size (lessH l n) + (1 + h.size) ≤ sizeL THeld.size l := by
  induction l with
  | nil => simp [findH] at hf
  | cons g l ih =>
    unfold findH at hf ih
    rw [List.find?_cons] at hf
    unfold lessH at ih ⊢
    by_cases e : g.Txn = n
    · rw [beq_iff_eq.2 e] at hf
      injection hf with hf; subst hf
      rw [List.filter_cons_of_neg (by simp [e]), N7]
      have : sizeL THeld.size (l.filter fun h => h.Txn != n) ≤ sizeL THeld.size l := by
        clear ih
        induction l with
        | nil => exact Nat.le_refl _
        | cons y l ih =>
          rw [List.filter_cons]
          split
          · rw [N7, N7]; omega
          · rw [N7]; omega
      omega
    · rw [beq_eq_false_iff_ne.2 e] at hf
      rw [List.filter_cons_of_pos (by simp [e]), N7, N7]
      have := ih hf; omega
theorem AJ0 (l : List THeld) (n : Int) : sizeL THeld.size (lessH l n) ≤ sizeL THeld.size l := by
  induction l with
  | nil => exact Nat.le_refl _
  | cons y l ih =>
    unfold lessH at ih ⊢
    rw [List.filter_cons]
    split
    · rw [N7, N7]; omega
    · rw [N7]; omega
theorem BN0 (s : TState) (r : TRec) : phi (applyS s r).1 ≤ phi s + 3 * (1 + r.size) + 1 := by
  have hh : (hOf r).size = r.size := rfl
  have hins : sizeL THeld.size (insH (hOf r) s.Held) = 1 + r.size + sizeL THeld.size s.Held := by rw [BI0 (AC0 _ _), N7, hh]
  have htl : ∀ t : TTold, (insT t s.Told).length = s.Told.length + 1 := fun t => by rw [(AT0 _ _).length_eq]; rfl
  have h2 := AJ0 s.Held r.Txn
  unfold applyS
  split
  · unfold phi; dsimp only; omega
  · split
    · dsimp only; omega
    · split
      · unfold phi; dsimp only; rw [hins]; omega
      · split
        · cases hf : findH s.Held r.Txn with
          | none => dsimp only; omega
          | some h =>
            dsimp only
            split
            · dsimp only; omega
            · split
              · rename_i hp
                have h3 := Av3 (Ah6 hp).1
                have h4 := BI1 hf
                have h5 : h.size = sizeL (fun x => x.length) h.Reads + sizeL TWrite.size h.Writes := rfl
                unfold doneS phi; dsimp only; rw [htl]; omega
              · dsimp only; omega
        · unfold doneS phi; dsimp only; rw [htl]; omega
theorem phi_step (s : TState) (r : TRec) : phi (stepS s r) ≤ phi s + 3 * (1 + r.size) + 1 := by
  unfold stepS
  split
  · exact BN0 s r
  · omega
theorem Ab5 {m : Nat} : ∀ {l : List TRec} {s : TState}, (∀ r ∈ l, r.size ≤ m) → phi (stFrom s l) ≤ phi s + l.length * (3 * (1 + m) + 1)
  | [], s, _ => by simp [stFrom]
  | r :: l, s, h => by
    have h1 := phi_step s r
    have h2 := Ab5 (l := l) (s := stepS s r) fun x hx => h x (List.mem_cons_of_mem _ hx)
    have h3 := h r List.mem_cons_self
    have h4 : stFrom s (r :: l) = stFrom (stepS s r) l := rfl
    rw [h4, I5, Nat.add_mul, Nat.one_mul]
    omega
theorem Ap4 {r : TRec} (h : goodRec r = true) : r.size ≤ 400 := by
  have g := goodR h
  have h1 : sizeL (fun x : Str => x.length) r.Reads ≤ r.Reads.length * 13 := u5 fun x hx => Ae0 (g.reads.2 x hx)
  have h2 : sizeL TWrite.size r.Writes ≤ r.Writes.length * 37 := u5 (f := TWrite.size) fun x hx => by
    have := g.writes.2 x hx
    have k1 := Ae0 this.1
    have k2 := BF7 this.2.1
    show x.Key.length + x.Val.length ≤ 36
    omega
  have h3 : r.size = sizeL (fun x : Str => x.length) r.Reads + sizeL TWrite.size r.Writes := rfl
  have := g.reads.1
  have := g.writes.1
  omega
def zTold : TTold := ⟨0, false, 0⟩
def zHeld : THeld := ⟨0, 0, 0, [], []⟩
theorem BI2 {l : List TTold} {n : Int} : findT l n = none ↔ hasT l n = false := by
  unfold findT hasT; rw [List.find?_eq_none, List.any_eq_false]
theorem BI3 {s : TState} (g : GS s) {h : THeld} (hm : h ∈ s.Held) : 1 ≤ h.Time ∧ h.Time ≤ 100000 ∧ adj wLess h.Writes = true := by
  obtain ⟨g1, g2, g3⟩ := g.good h hm
  have h1 := g1
  unfold goodRec hRec at h1
  rw [if_pos rfl] at h1
  unfold good1 isTime within at h1
  simp only [Bool.and_eq_true, decide_eq_true_eq] at h1
  exact ⟨by omega, by omega, Ab3 g1⟩
end Go.M
namespace Go.Proofs.YtoaoicnnimjbeaaGreat
open Go Go.AV Go.M
attribute [local irreducible] OpW OpA OpS AWP FSpec ESpec GSpec OpE RetOk RetOkG RvDen Le Ev GuardIs SrcIs Int.tmod Int.tdiv IntKind.wrap
theorem Ap5 (rs : List Str) (ws : List TWrite) (hs : sizeL (fun x : Str => x.length) rs + sizeL TWrite.size ws ≤ 1048576) : FSpec Tryz.prog 70 [strs rs, AV.list 3 (ws.map TWrite.cs)] (AV.bool (goodRec ⟨1, 1, 1, 0, rs, ws, false⟩)) := by
 refine E2 Tryz.func70 rfl Tryz.ntmps70 rfl ?_
 refine A3 (A2 ?_)
 refine A1 rfl (B6 rfl E9) ?_
 refine A4 (A3 (A2 ?_))
 refine A5 rfl ?_
 refine A5 rfl ?_
 refine A1 rfl (N5 (places := #[(0, 1), (1, 1), (2, 1), (3, 1), (4, 1), (5, 1), (6, 1)]) rfl B7 Tryz.zeroValue104 (fun w => by kernel_rfl) rfl (D0 B4 (L8 _ _) (D0 B4 (L8 _ _) (D0 B4 (L8 _ _) (D0 (A0 rfl) (O9 _ _) (D0 (A0 rfl) (O9 _ _) G9))))) rfl) ?_
 refine A1 rfl (D7 rfl Tryz.call100 rfl (AU0 ⟨1, 1, 1, 0, rs, ws, false⟩ hs) (A6 (A0 rfl) C0)) ?_
 refine B3 rfl ?_
 refine A4 ?_
 refine C2 ?_
 exact I3 rfl (C1 rfl (by first | rfl | (refine congrArg AV.bool ?_; simp_all; done)))
end Go.Proofs.YtoaoicnnimjbeaaGreat

namespace Go.M
open Go.AV
theorem all_any {α : Type} {p : α → Bool} (l : List α) : (l.any fun x => !p x) = !l.all p := by rw [List.not_all_eq_any_not]
theorem BA1 (a b : THeld) : decide (hRec a = hRec b) = decide (a = b) := by
  rw [decide_eq_decide]
  constructor
  · intro h; cases a; cases b; unfold hRec at h; simp_all
  · rintro rfl; rfl
end Go.M
namespace Go.Proofs.YtoaoicnnimjbeaaGreat
open Go Go.AV Go.M
attribute [local irreducible] OpW OpA OpS AWP FSpec ESpec GSpec OpE RetOk RetOkG RvDen Le Ev GuardIs SrcIs Int.tmod Int.tdiv IntKind.wrap
end Go.Proofs.YtoaoicnnimjbeaaGreat

namespace Go.M
open Go.AV
theorem Af2 {l : List Str} {k : Str} {i : Nat} {c : Str} (h : l[i]? = some c) : partN (l.take (i + 1)) k = partN (l.take i) k + (if leS c k = true then 1 else 0) := by
  unfold partN
  rw [List.take_add_one, h, List.filter_append, J6]
  cases hc : leS c k <;> simp [hc]
theorem Ab6 {l : List Str} {i : Nat} (h : i < l.length) : (l.map fun s => [AV.str s])[((i : Nat) : Int).toNat]? = some [AV.str (l.getD i [])] := by
  rw [Int.toNat_natCast, List.getElem?_map, List.getElem?_eq_getElem h, Option.map_some, List.getD_eq_getElem?_getD, List.getElem?_eq_getElem h]; rfl
theorem AP0 {l : List Str} {i : Nat} (h : i < l.length) : l[i]? = some (l.getD i []) := by
  rw [List.getElem?_eq_getElem h, List.getD_eq_getElem?_getD, List.getElem?_eq_getElem h]; rfl
theorem Am6 {l : List Str} {k : Str} {i : Nat} (hi : i ≤ partW l k) (h : (decide ((i : Int) < (l.length : Int)) && leS (l.getD i []) k) = true) : i < l.length ∧ i + 1 ≤ partW l k := by
  simp only [Bool.and_eq_true, decide_eq_true_eq] at h
  have hl : i < l.length := by omega
  refine ⟨hl, ?_⟩
  rcases Nat.lt_or_ge i (partW l k) with h1 | h1
  · exact h1
  · have := (AF0 (k := k) (AP0 hl)).2 (by omega)
    rw [h.2] at this; cases this
theorem BN1 {l : List Str} {k : Str} {i : Nat} (hi : i ≤ partW l k) (h : (decide ((i : Int) < (l.length : Int)) && leS (l.getD i []) k) = false) : i = partW l k := by
  have hle := AE9 l k
  rcases Nat.lt_or_ge i (partW l k) with h1 | h1
  · have hl : i < l.length := by omega
    rw [(AF0 (k := k) (AP0 hl)).1 h1, decide_eq_true (by omega)] at h; cases h
  · omega
theorem partN_le (l : List Str) (k : Str) : partN l k ≤ l.length := List.length_filter_le _ _
def partR (l : List Str) (k : Str) : Int × Bool := if (l15Cuts l && l3Key k) = true then ((partW l k : Int), true) else (0, false)
theorem Am7 {l : List Str} (h : l15Cuts l = true) : l.Pairwise fun a b => Op.bytesLess a b = true := by
  unfold l15Cuts at h
  simp only [Bool.and_eq_true] at h
  exact (y8 (p := Op.bytesLess) (fun _ _ _ => Q1)).1 h.1.2
end Go.M
namespace Go.Proofs.YtoaoicnnimjbeaaGreat
open Go Go.AV Go.M
attribute [local irreducible] OpW OpA OpS AWP FSpec ESpec GSpec OpE RetOk RetOkG RvDen Le Ev GuardIs SrcIs SrcE Int.tmod Int.tdiv IntKind.wrap bandI
theorem AZ1 (l : List Str) (k : Str) : FSpec Tryz.prog 28 [strs l, AV.str k] (AV.int (partN l k)) := by
 refine E2 Tryz.func28 rfl Tryz.ntmps28 rfl ?_
 refine U5 (t := 0) rfl fun hl => ?_
 try simp only [A8] at hl
 refine A3 (A2 ?_)
 refine A1 rfl (B6 rfl B4) ?_
 refine A4 (A3 (A2 ?_))
 refine A1 rfl (B6 rfl B4) ?_
 refine A4 (A3 (A3 (A2 ?_)))
 refine A5 rfl ?_
 refine A1 rfl (F6 rfl C9 (A0 rfl)) ?_
 refine A1 rfl (B8 rfl B4) ?_
 refine A4 (C7 ?_)
 refine P3 [(1, _), (4, _), (8, _), (9, _)] _ (fun (i : Nat) (n : Int) => i ≤ l.length ∧ n = (partN (l.take i) k : Int)) (fun (i : Nat) (n : Int) => []) (fun (i : Nat) (n : Int) => [(5, AV.int n), (10, AV.int i)]) (fun (i : Nat) (n : Int) => l.length - i) (0) (0) ?_ (K2 ⟨rfl, rfl, rfl, rfl, rfl, rfl, trivial⟩) ?_
 ·exact ⟨Nat.zero_le _, rfl⟩
 intro i n hinv
 refine A3 (A2 ?_)
 refine A1 rfl (J8 rfl (A0 rfl) (A0 rfl)) ?_
 refine A4 (A3 ?_)
 refine B9 (A0 rfl) ?_ ?_
 ·intro h11
  have k11 := of_decide_eq_true h11; try simp only [A8] at k11
  have hlt : i < l.length := by omega
  obtain ⟨x, hx⟩ := get_some hlt
  have hle := partN_le (l.take i) k
  rw [D9] at hle
  refine C3 (A3 (C7 (A3 (A2 ?_))))
  refine A1 rfl (I2 rfl C9 E3 (A0 rfl) (A0 rfl) hx (by first | omega | (simp only [C8, A7, szR] at *; omega))) ?_
  refine A1 rfl (L6 rfl (A0 rfl) G3 rfl) ?_
  refine B3 rfl ?_
  refine A4 (A3 (A2 ?_))
  refine A5 rfl ?_
  refine A5 rfl ?_
  refine A1 rfl (Ad0 rfl (A0 rfl) (A0 rfl)) ?_
  refine A4 ?_
  refine B9 (A0 rfl) ?_ ?_
  ·intro h16
   refine A2 ?_
   refine A5 rfl ?_
   refine A1 rfl (G0 rfl (A0 rfl) B4 (by first | omega | (simp only [C8, A7, szR] at *; omega))) ?_
   refine B3 rfl ?_
   refine A4 (A2 ?_)
   refine A1 rfl (G0 rfl (A0 rfl) B4 (by first | omega | (simp only [C8, A7, szR] at *; omega))) ?_
   refine A5 rfl ?_
   refine A4 ?_
   refine O2 i n (i + 1) (n + 1) ?_ ?_ (K2 ⟨rfl, rfl, rfl, rfl, rfl, rfl, trivial⟩)
   ·exact ⟨by omega, by rw [Af2 hx, hinv.2, if_pos (show leS x k = true from h16)]; omega⟩
   omega
  intro h16
  refine C3 (A2 ?_)
  refine A1 rfl (G0 rfl (A0 rfl) B4 (by first | omega | (simp only [C8, A7, szR] at *; omega))) ?_
  refine A5 rfl ?_
  refine A4 ?_
  refine O2 i n (i + 1) (n) ?_ ?_ (K2 ⟨rfl, rfl, rfl, rfl, rfl, rfl, trivial⟩)
  ·exact ⟨by omega, by rw [Af2 hx, hinv.2, if_neg (show ¬ leS x k = true from fun h9 => by rw [show leS x k = false from h16] at h9; cases h9)]; omega⟩
  omega
 intro h11
 have k11 := of_decide_eq_false h11; try simp only [A8] at k11
 have hge : l.length ≤ i := by omega
 rw [show n = (partN l k : Int) from by rw [hinv.2, List.take_of_length_le hge]]
 refine G1 ?_
 refine A3 (A2 ?_)
 refine A5 rfl ?_
 refine B3 rfl ?_
 refine A4 ?_
 refine C2 ?_
 exact I3 rfl (C1 rfl (by rfl))
theorem p4 (l : List Str) (hs : ∀ k ∈ l, k.length ≤ 4611686018427387904) : FSpec Tryz.prog 29 [strs l] (AV.bool (l15Cuts l)) := by
 refine E2 Tryz.func29 rfl Tryz.ntmps29 rfl ?_
 refine U5 (t := 0) rfl fun hl => ?_
 try simp only [A8] at hl
 refine A3 (A2 ?_)
 refine A1 rfl (B6 rfl E9) ?_
 refine A4 (A3 (A3 (A2 ?_)))
 refine A5 rfl ?_
 refine A1 rfl (F6 rfl C9 (A0 rfl)) ?_
 refine A1 rfl (B8 rfl B4) ?_
 refine A4 (C7 ?_)
 refine J0 [(0, _), (5, _), (6, _)] _ (fun (i : Nat) => i ≤ l.length ∧ (l.all l3Key && adj Op.bytesLess l) = ((l.drop i).all l3Key && adj Op.bytesLess (l.drop (i - 1)))) (fun (i : Nat) => []) (fun (i : Nat) => [(7, AV.int i)]) (fun (i : Nat) => l.length - i) (0) ?_ (K2 ⟨rfl, rfl, rfl, rfl, trivial⟩) ?_
 ·exact ⟨Nat.zero_le _, rfl⟩
 intro i hinv
 refine A3 (A2 ?_)
 refine A1 rfl (J8 rfl (A0 rfl) (A0 rfl)) ?_
 refine A4 (A3 ?_)
 refine B9 (A0 rfl) ?_ ?_
 ·intro h8
  have k8 := of_decide_eq_true h8; try simp only [A8] at k8
  have hlt : i < l.length := by omega
  obtain ⟨x, hx⟩ := get_some hlt
  obtain ⟨y, hy⟩ := get_some (show i - 1 < l.length by omega)
  have hsx := hs x (F9 hx)
  refine C3 (A3 (C7 (A3 (A2 ?_))))
  refine A5 rfl ?_
  refine A1 rfl (n4 rfl C9 E3 (A0 rfl) (A0 rfl) (by omega) (by simp only [Int.toNat_natCast, List.getElem?_map, hx, Option.map_some]; try rfl)) ?_
  refine A1 rfl (L6 rfl (A0 rfl) G3 rfl) ?_
  refine B3 rfl ?_
  refine B3 rfl ?_
  refine A4 (A3 (A2 ?_))
  refine A5 rfl ?_
  refine A1 rfl (D7 rfl Tryz.call30 rfl (w3 _ (by omega)) (A6 (A0 rfl) C0)) ?_
  refine A1 rfl (M2 rfl (A0 rfl)) ?_
  refine A5 rfl ?_
  refine F3 rfl (fun hc => B8 rfl (A0 rfl)) ?_
  refine F3 rfl (fun hc => R8 rfl (A9 rfl hc) B4) ?_
  refine F3 rfl (fun hc => B8 rfl (A9 rfl hc)) ?_
  refine J7 rfl rfl (E6 rfl rfl rfl) (fun hc => B8 rfl (A0 rfl)) ?_
  refine J7 rfl rfl (E6 rfl rfl rfl) (fun hc => B8 rfl (A0 rfl)) ?_
  refine J7 rfl rfl (E6 rfl rfl rfl) (fun hc => R7 rfl (A9 rfl hc) B4 (by first | omega | ((try simp only [C8, A7, szR] at *); omega) | (have hc2 := hc; simp only [Q0, beq_iff_eq, bne_iff_ne, A8, D9] at hc2; omega))) ?_
  refine J7 rfl rfl (E6 rfl rfl rfl) (fun hc => n4 rfl C9 E3 (A9 rfl hc) (A9 rfl hc) (by have := of_decide_eq_true (Ar2 hc); omega) (by have := of_decide_eq_true (Ar2 hc); rw [show ((i : Int) - 1).toNat = i - 1 by omega]; simp only [List.getElem?_map, hy, Option.map_some]; try rfl)) ?_
  refine J7 rfl rfl (E6 rfl rfl rfl) (fun hc => L6 rfl (A9 rfl hc) G3 rfl) ?_
  refine J7 rfl rfl (E6 rfl rfl rfl) (fun hc => B8 rfl (A0 rfl)) ?_
  refine J7 rfl rfl (E6 rfl rfl rfl) (fun hc => Ad1 rfl (A9 rfl hc) (A9 rfl hc)) ?_
  refine F3 rfl (fun hc => J5 rfl (A9 rfl hc) (T1 rfl hc)) ?_
  refine A1 rfl (Q8 rfl (A0 rfl) (F7 rfl)) ?_
  refine A4 ?_
  refine B9 (A0 rfl) ?_ ?_
  ·intro h27
   have hfin : (l.all l3Key && adj Op.bytesLess l) = false := by rw [hinv.2, drop_some hx, List.all_cons]; cases hg : l3Key x with | false => simp | true => (simp only [hg, Bool.not_true, Bool.false_or, Bool.and_eq_true, decide_eq_true_eq, Bool.not_eq_true'] at h27; rw [s7 hx hy (by omega) h27.2]; simp)
   refine A3 (A2 ?_)
   refine A1 rfl (B6 rfl E9) ?_
   refine A4 ?_
   refine C2 ?_
   exact I3 rfl (C1 rfl (by first | exact congrArg AV.bool (by unfold l15Cuts; rw [hfin]; rfl) | exact congrArg AV.bool (by unfold l15Cuts; rw [hinv.2, f7 hge, List.drop_eq_nil_of_le hge]; simp)))
  intro h27
  refine C3 (A2 ?_)
  refine A1 rfl (G0 rfl (A0 rfl) B4 (by first | omega | (simp only [C8, A7, szR] at *; omega))) ?_
  refine A5 rfl ?_
  refine A4 ?_
  refine K4 i (i + 1) ?_ ?_ (K2 ⟨rfl, rfl, rfl, rfl, trivial⟩)
  ·exact ⟨by omega, by rw [hinv.2, drop_some hx, List.all_cons, s6 hx hy (fun h0 => by simp_all), show l3Key x = true by simp_all]; simp⟩
  omega
 intro h8
 have k8 := of_decide_eq_false h8; try simp only [A8] at k8
 have hge : l.length ≤ i := by omega
 refine G1 ?_
 refine A3 (A2 ?_)
 refine A5 rfl ?_
 refine A1 rfl (F6 rfl C9 (A0 rfl)) ?_
 refine A1 rfl (J8 rfl (A0 rfl) B4) ?_
 refine B3 rfl ?_
 refine A4 ?_
 refine C2 ?_
 exact I3 rfl (C1 rfl (by first | exact congrArg AV.bool (by unfold l15Cuts; rw [hfin]; rfl) | exact congrArg AV.bool (by unfold l15Cuts; rw [hinv.2, f7 hge, List.drop_eq_nil_of_le hge]; simp)))
theorem s3 (l : List Str) (hs : ∀ k ∈ l, k.length ≤ 4611686018427387904) : FSpec Tryz.prog 8 [strs l] (AV.bool (l15Cuts l)) := by
 rw [← Ay9]
 refine E2 Tryz.func8 rfl Tryz.ntmps8 rfl ?_
 refine A3 (A2 ?_)
 refine A1 rfl (B6 rfl E9) ?_
 refine A4 (A3 (A2 ?_))
 refine A5 rfl ?_
 refine A1 rfl (F6 rfl C9 (A0 rfl)) ?_
 refine A1 rfl (J8 rfl (A0 rfl) B4) ?_
 refine A5 rfl ?_
 refine D3 rfl (fun hc => B8 rfl (A0 rfl)) ?_
 refine D3 rfl (fun hc => D7 rfl Tryz.call32 rfl (q6 l hs) (A6 (A9 rfl hc) C0)) ?_
 refine A1 rfl (J5 rfl (A0 rfl) (F7 rfl)) ?_
 refine B3 rfl ?_
 refine A4 ?_
 refine C2 ?_
 exact I3 rfl (C1 rfl (by first | rfl | exact congrArg AV.bool (by unfold goodCuts; simp only [A8])))
theorem Ai2 (l : List Str) (hs : ∀ k ∈ l, k.length ≤ 4611686018427387904) : FSpec Tryz.prog 9 [strs l] (AV.bool (l15Cuts l)) := by
 refine E2 Tryz.func9 rfl Tryz.ntmps9 rfl ?_
 refine A3 (A2 ?_)
 refine A1 rfl (B6 rfl E9) ?_
 refine A4 (A3 (A2 ?_))
 refine A5 rfl ?_
 refine A1 rfl (D7 rfl Tryz.call29 rfl (p4 l hs) (A6 (A0 rfl) C0)) ?_
 refine B3 rfl ?_
 refine A4 ?_
 refine C2 ?_
 exact I3 rfl (C1 rfl (by rfl))
theorem w4 (l : List Str) (k : Str) : FSpec Tryz.prog 31 [strs l, AV.str k] (AV.int (partW l k)) := by
 refine E2 Tryz.func31 rfl Tryz.ntmps31 rfl ?_
 refine U5 (t := 0) rfl fun hl => ?_
 try simp only [A8] at hl
 refine A3 (A2 ?_)
 refine A1 rfl (B6 rfl B4) ?_
 refine A4 (A3 (A2 ?_))
 refine A1 rfl (B6 rfl B4) ?_
 refine A4 (A3 (C7 ?_))
 have hle := AE9 l k
 refine J0 [(0, _), (1, _), (4, _)] _ (fun (i : Nat) => i ≤ partW l k) (fun (i : Nat) => []) (fun (i : Nat) => [(5, AV.int i)]) (fun (i : Nat) => l.length - i) (0) ?_ (K2 ⟨rfl, rfl, rfl, rfl, trivial⟩) ?_
 ·exact Nat.zero_le _
 intro i hinv
 refine A3 (A3 (A2 ?_))
 refine A5 rfl ?_
 refine A5 rfl ?_
 refine A1 rfl (F6 rfl C9 (A0 rfl)) ?_
 refine A1 rfl (J8 rfl (A0 rfl) (A0 rfl)) ?_
 refine A5 rfl ?_
 refine D3 rfl (fun hc => B8 rfl (A0 rfl)) ?_
 refine D3 rfl (fun hc => B8 rfl (A0 rfl)) ?_
 refine D3 rfl (fun hc => n4 rfl C9 E3 (A9 rfl hc) (A9 rfl hc) (by omega) (Ab6 (by have h9 := of_decide_eq_true hc; simp only [A8] at h9; omega))) ?_
 refine D3 rfl (fun hc => L6 rfl (A9 rfl hc) G3 rfl) ?_
 refine D3 rfl (fun hc => B8 rfl (A0 rfl)) ?_
 refine D3 rfl (fun hc => Ad0 rfl (A9 rfl hc) (A9 rfl hc)) ?_
 refine A1 rfl (J5 rfl (A0 rfl) (F7 rfl)) ?_
 refine A4 ?_
 refine B9 (A0 rfl) ?_ ?_
 ·intro h17
  have h17m : (decide ((i : Int) < (l.length : Int)) && leS (l.getD i []) k) = true := by (have h9 := h17; rw [A8] at h9; exact h9)
  have hlt := (Am6 hinv h17m).1
  refine C3 (C7 (A2 ?_))
  refine A5 rfl ?_
  refine A1 rfl (G0 rfl (A0 rfl) B4 (by first | omega | (simp only [C8, A7, szR] at *; omega))) ?_
  refine B3 rfl ?_
  refine A4 ?_
  refine m3 ?_
  refine K4 i (i + 1) ?_ ?_ (K2 ⟨rfl, rfl, rfl, rfl, trivial⟩)
  ·exact (Am6 hinv h17m).2
  omega
 intro h17
 have h17m : (decide ((i : Int) < (l.length : Int)) && leS (l.getD i []) k) = false := by (have h9 := h17; rw [A8] at h9; exact h9)
 rw [BN1 hinv h17m]
 refine G1 ?_
 refine A3 (A2 ?_)
 refine A5 rfl ?_
 refine B3 rfl ?_
 refine A4 ?_
 refine C2 ?_
 exact I3 rfl (C1 rfl (by rfl))
theorem AU7 (l : List Str) (k : Str) (hs : ∀ k ∈ l, k.length ≤ 4611686018427387904) (hk : k.length ≤ 4611686018427387904) : FSpec Tryz.prog 6 [strs l, AV.str k] (AV.tup [AV.int (partR l k).1, AV.bool (partR l k).2]) := by
 refine E2 Tryz.func6 rfl Tryz.ntmps6 rfl ?_
 refine A3 (A2 ?_)
 refine A1 rfl (B6 rfl B4) ?_
 refine A1 rfl (B6 rfl E9) ?_
 refine A4 (A3 (A3 (A2 ?_)))
 refine A5 rfl ?_
 refine A1 rfl (D7 rfl Tryz.call8 rfl (s3 l hs) (A6 (A0 rfl) C0)) ?_
 refine A1 rfl (M2 rfl (A0 rfl)) ?_
 refine A5 rfl ?_
 refine F3 rfl (fun hc => B8 rfl (A0 rfl)) ?_
 refine F3 rfl (fun hc => D7 rfl Tryz.call27 rfl (AT4 k hk) (A6 (A9 rfl hc) C0)) ?_
 refine F3 rfl (fun hc => M2 rfl (A9 rfl hc)) ?_
 refine A1 rfl (Q8 rfl (A0 rfl) (F7 rfl)) ?_
 refine A4 ?_
 refine B9 (A0 rfl) ?_ ?_
 ·intro h13
  have he : partR l k = (0, false) := by (unfold partR; rw [if_neg (by rw [l5] at h13; cases h1 : l15Cuts l <;> simp_all)])
  rw [he]
  refine A3 (A2 ?_)
  refine A1 rfl (B6 rfl B4) ?_
  refine A1 rfl (B6 rfl E9) ?_
  refine A4 ?_
  refine C2 ?_
  exact X8 rfl (by decide) (E7 (C1 rfl (by rfl)) (E7 (C1 rfl (by rfl)) M0))
 intro h13
 have hg : l15Cuts l = true ∧ l3Key k = true := by (rw [l5] at h13; cases h1 : l15Cuts l <;> cases h2 : l3Key k <;> simp_all)
 have he : partR l k = ((partN l k : Int), true) := by (unfold partR; rw [if_pos (by rw [hg.1, hg.2]; rfl), Ah3 (Am7 hg.1)])
 rw [he]
 refine C3 (A3 (A2 ?_))
 refine A5 rfl ?_
 refine A5 rfl ?_
 refine A1 rfl (D7 rfl Tryz.call28 rfl (AZ1 _ _) (A6 (A0 rfl) (A6 (A0 rfl) C0))) ?_
 refine B3 rfl ?_
 refine A1 rfl (B6 rfl E9) ?_
 refine A4 ?_
 refine C2 ?_
 exact X8 rfl (by decide) (E7 (C1 rfl (by rfl)) (E7 (C1 rfl (by rfl)) M0))
theorem Av4 (l : List Str) (k : Str) (hs : ∀ k ∈ l, k.length ≤ 4611686018427387904) (hk : k.length ≤ 4611686018427387904) : FSpec Tryz.prog 7 [strs l, AV.str k] (AV.tup [AV.int (partR l k).1, AV.bool (partR l k).2]) := by
 refine E2 Tryz.func7 rfl Tryz.ntmps7 rfl ?_
 refine A3 (A2 ?_)
 refine A1 rfl (B6 rfl B4) ?_
 refine A1 rfl (B6 rfl E9) ?_
 refine A4 (A3 (A3 (A2 ?_)))
 refine A5 rfl ?_
 refine A1 rfl (D7 rfl Tryz.call29 rfl (p4 l hs) (A6 (A0 rfl) C0)) ?_
 refine A1 rfl (M2 rfl (A0 rfl)) ?_
 refine A5 rfl ?_
 refine F3 rfl (fun hc => B8 rfl (A0 rfl)) ?_
 refine F3 rfl (fun hc => D7 rfl Tryz.call30 rfl (w3 k hk) (A6 (A9 rfl hc) C0)) ?_
 refine F3 rfl (fun hc => M2 rfl (A9 rfl hc)) ?_
 refine A1 rfl (Q8 rfl (A0 rfl) (F7 rfl)) ?_
 refine A4 ?_
 refine B9 (A0 rfl) ?_ ?_
 ·intro h13
  have he : partR l k = (0, false) := by (unfold partR; rw [if_neg (by cases h1 : l15Cuts l <;> simp_all)])
  rw [he]
  refine A3 (A2 ?_)
  refine A1 rfl (B6 rfl B4) ?_
  refine A1 rfl (B6 rfl E9) ?_
  refine A4 ?_
  refine C2 ?_
  exact X8 rfl (by decide) (E7 (C1 rfl (by rfl)) (E7 (C1 rfl (by rfl)) M0))
 intro h13
 have hg : l15Cuts l = true ∧ l3Key k = true := by (cases h1 : l15Cuts l <;> cases h2 : l3Key k <;> simp_all)
 have he : partR l k = ((partW l k : Int), true) := by (unfold partR; rw [if_pos (by rw [hg.1, hg.2]; rfl)])
 rw [he]
 refine C3 (A3 (A2 ?_))
 refine A5 rfl ?_
 refine A5 rfl ?_
 refine A1 rfl (D7 rfl Tryz.call31 rfl (w4 _ _) (A6 (A0 rfl) (A6 (A0 rfl) C0))) ?_
 refine B3 rfl ?_
 refine A1 rfl (B6 rfl E9) ?_
 refine A4 ?_
 refine C2 ?_
 exact X8 rfl (by decide) (E7 (C1 rfl (by rfl)) (E7 (C1 rfl (by rfl)) M0))
end Go.Proofs.YtoaoicnnimjbeaaGreat

namespace Go.M
open Go.AV
def putIb : List Int → Int → List Int
  | [], n => [n]
  | x :: l, n => if x < n then x :: putIb l n else if x = n then x :: l else n :: x :: l
theorem Am8 {l : List Int} {n x : Int} : x ∈ putIb l n ↔ x = n ∨ x ∈ l := by
  induction l with
  | nil => simp [putIb]
  | cons y l ih =>
    unfold putIb
    split
    · simp only [List.mem_cons, ih]; constructor <;> rintro (h | h | h) <;> simp [h]
    · split
      · rename_i h; subst h; simp
      · simp
theorem Av5 {l : List Int} {n : Int} (h : l.Pairwise (· < ·)) : (putIb l n).Pairwise (· < ·) := by
  induction l with
  | nil => simp [putIb]
  | cons y l ih =>
    obtain ⟨h1, h2⟩ := List.pairwise_cons.1 h
    unfold putIb
    split
    · rename_i hy
      refine List.pairwise_cons.2 ⟨fun z hz => ?_, ih h2⟩
      rcases Am8.1 hz with rfl | hz
      · exact hy
      · exact h1 z hz
    · split
      · exact h
      · rename_i h3 h4
        refine List.pairwise_cons.2 ⟨fun z hz => ?_, h⟩
        rcases List.mem_cons.1 hz with rfl | hz
        · omega
        · have := h1 z hz; omega
theorem AH2 {l : List Int} {z : Int} : ∀ {n : Nat}, z ∈ cmpN l n ↔ ∃ i, i < n ∧ l[i]? = some z
  | 0 => by constructor
            · intro h; cases h
            · rintro ⟨i, h, _⟩; omega
  | n + 1 => by
    show z ∈ (if n ≠ 0 ∧ l[n]? = l[n - 1]? then cmpN l n else cmpN l n ++ (l[n]?).toList) ↔ _
    split
    · rename_i h
      rw [AH2]
      constructor
      · exact fun ⟨i, h1, h2⟩ => ⟨i, by omega, h2⟩
      · intro ⟨i, h1, h2⟩
        by_cases e : i = n
        · subst e; exact ⟨i - 1, by omega, h.2 ▸ h2⟩
        · exact ⟨i, by omega, h2⟩
    · rw [List.mem_append, AH2, Option.mem_toList]
      constructor
      · rintro (⟨i, h1, h2⟩ | h)
        · exact ⟨i, by omega, h2⟩
        · exact ⟨n, by omega, h⟩
      · intro ⟨i, h1, h2⟩
        by_cases e : i = n
        · subst e; exact .inr h2
        · exact .inl ⟨i, by omega, h2⟩
theorem BN2 (l : List Int) (z : Int) : z ∈ cmpL l ↔ z ∈ l := by
  unfold cmpL
  rw [AH2]
  constructor
  · exact fun ⟨i, _, h⟩ => F9 h
  · intro h
    obtain ⟨i, hi⟩ := List.getElem?_of_mem h
    exact ⟨i, (List.getElem?_eq_some_iff.1 hi).1, hi⟩
theorem Am9 {l : List Int} (hs : l.Pairwise (· ≤ ·)) : ∀ {n : Nat}, n ≤ l.length → (cmpN l n).Pairwise (· < ·)
  | 0, _ => List.Pairwise.nil
  | n + 1, hn => by
    have ih := Am9 hs (n := n) (by omega)
    show (if n ≠ 0 ∧ l[n]? = l[n - 1]? then cmpN l n else cmpN l n ++ (l[n]?).toList).Pairwise (· < ·)
    split
    · exact ih
    · rename_i h
      obtain ⟨x, hx⟩ := get_some (show n < l.length by omega)
      rw [hx]
      refine List.pairwise_append.2 ⟨ih, List.pairwise_singleton _ _, fun z hz w hw => ?_⟩
      simp at hw; subst hw
      obtain ⟨i, hi, hzi⟩ := AH2.1 hz
      have pg : ∀ {i j : Nat} {x y : Int}, i < j → l[i]? = some x → l[j]? = some y → x ≤ y := fun hij hx hy => by
        obtain ⟨h1, e1⟩ := List.getElem?_eq_some_iff.1 hx
        obtain ⟨h2, e2⟩ := List.getElem?_eq_some_iff.1 hy
        rw [← e1, ← e2]; exact List.pairwise_iff_getElem.1 hs _ _ h1 h2 hij
      have h1 := pg hi hzi hx
      rcases Int.lt_or_le z w with e | e
      · exact e
      · exfalso
        have ez : z = w := by omega
        subst ez
        apply h
        refine ⟨by omega, ?_⟩
        obtain ⟨y, hy⟩ := get_some (show n - 1 < l.length by omega)
        have h2 : y ≤ z := pg (by omega) hy hx
        by_cases f : i = n - 1
        · rw [hx, ← f, hzi]
        · have h3 : z ≤ y := pg (by omega) hzi hy
          rw [hx, hy, show y = z by omega]
theorem Av6 : ∀ {a b : List Int}, a.Pairwise (· < ·) → b.Pairwise (· < ·) → (∀ x, x ∈ a ↔ x ∈ b) → a = b
  | [], [], _, _, _ => rfl
  | [], y :: b, _, _, h => by have := (h y).2 List.mem_cons_self; cases this
  | x :: a, [], _, _, h => by have := (h x).1 List.mem_cons_self; cases this
  | x :: a, y :: b, ha, hb, h => by
    obtain ⟨a1, a2⟩ := List.pairwise_cons.1 ha
    obtain ⟨b1, b2⟩ := List.pairwise_cons.1 hb
    have e : x = y := by
      rcases List.mem_cons.1 ((h x).1 List.mem_cons_self) with e | e
      · exact e
      · rcases List.mem_cons.1 ((h y).2 List.mem_cons_self) with f | f
        · exact f.symm
        · have := b1 x e; have := a1 y f; omega
    subst e
    rw [Av6 a2 b2 fun z => ?_]
    constructor
    · intro hz
      rcases List.mem_cons.1 ((h z).1 (List.mem_cons_of_mem _ hz)) with e | e
      · subst e; have := a1 z hz; omega
      · exact e
    · intro hz
      rcases List.mem_cons.1 ((h z).2 (List.mem_cons_of_mem _ hz)) with e | e
      · subst e; have := b1 z hz; omega
      · exact e
def partsL (cuts ks : List Str) : List Int := ks.foldl (fun a k => putIb a (partW cuts k)) []
theorem r7 {cuts : List Str} : ∀ {ks : List Str} {a : List Int}, a.Pairwise (· < ·) → (ks.foldl (fun a k => putIb a (partW cuts k)) a).Pairwise (· < ·) ∧ ∀ z, z ∈ ks.foldl (fun a k => putIb a (partW cuts k)) a ↔ z ∈ a ∨ ∃ k ∈ ks, z = (partW cuts k : Int)
  | [], a, h => ⟨h, fun z => by simp⟩
  | k :: ks, a, h => by
    obtain ⟨h1, h2⟩ := r7 (cuts := cuts) (ks := ks) (Av5 (n := (partW cuts k : Int)) h)
    refine ⟨h1, fun z => ?_⟩
    show z ∈ ks.foldl (fun a k => putIb a (partW cuts k)) (putIb a (partW cuts k)) ↔ _
    rw [h2, Am8]
    simp only [List.mem_cons, exists_eq_or_imp]
    constructor
    · rintro ((h | h) | h)
      · exact .inr (.inl h)
      · exact .inl h
      · exact .inr (.inr h)
    · rintro (h | h | h)
      · exact .inl (.inr h)
      · exact .inl (.inl h)
      · exact .inr h
theorem BI4 {cuts : List Str} {a b : Str} (h : Op.bytesLess a b = true) : partW cuts a ≤ partW cuts b := by
  unfold partW
  induction cuts with
  | nil => exact Nat.le_refl _
  | cons c l ih =>
    cases hc : leS c a with
    | true =>
      have hb : leS c b = true := by
        rw [BD1] at hc ⊢
        cases hx : Op.bytesLess b c with
        | false => rfl
        | true => rw [Q1 h hx] at hc; cases hc
      rw [List.takeWhile_cons_of_pos (p := fun c => leS c a) hc, List.takeWhile_cons_of_pos (p := fun c => leS c b) hb, I5, I5]; omega
    | false => rw [List.takeWhile_cons_of_neg (p := fun c => leS c a) (by rw [hc]; decide)]; exact Nat.zero_le _
theorem BI5 {cuts ks : List Str} (hc : cuts.Pairwise fun a b => Op.bytesLess a b = true) (hk : ks.Pairwise fun a b => Op.bytesLess a b = true) : cmpL (ks.map fun k => (partN cuts k : Int)) = partsL cuts ks := by
  rw [show (ks.map fun k => (partN cuts k : Int)) = ks.map fun k => (partW cuts k : Int) from List.map_congr_left fun k _ => by rw [Ah3 hc]]
  obtain ⟨h1, h2⟩ := r7 (cuts := cuts) (ks := ks) (a := []) List.Pairwise.nil
  have hs : (ks.map fun k => (partW cuts k : Int)).Pairwise (· ≤ ·) := List.pairwise_map.2 (hk.imp fun h => by have := BI4 (cuts := cuts) h; omega)
  refine Av6 (Am9 hs (Nat.le_refl _)) h1 fun z => ?_
  rw [BN2, show z ∈ partsL cuts ks ↔ z ∈ ([] : List Int) ∨ ∃ k ∈ ks, z = (partW cuts k : Int) from h2 z, List.mem_map]
  constructor
  · rintro ⟨k, hk, rfl⟩; exact .inr ⟨k, hk, rfl⟩
  · rintro (h | ⟨k, hk, rfl⟩)
    · cases h
    · exact ⟨k, hk, rfl⟩
end Go.M

namespace Go.Proofs.YtoaoicnnimjbeaaGreat
open Go Go.AV Go.M
attribute [local irreducible] OpW OpA OpS AWP FSpec ESpec GSpec OpE RetOk RetOkG RvDen Le Ev GuardIs SrcIs Int.tmod Int.tdiv IntKind.wrap
theorem AD5 (l : List Str) (hl : l.length ≤ 4194304) : GSpec Tryz.prog 52 [strs l] [] (fun _ : Value => True) (fun v => [.arr v 9 1 (l.map fun s => [AV.str s])]) (fun v => AV.is v) := by
 refine H3 Tryz.func52 rfl Tryz.ntmps52 rfl ?_
 refine A3 (A2 ?_)
 refine A1 rfl (B6 rfl L4) ?_
 refine A4 (A3 (A2 ?_))
 refine U6 rfl rfl rfl rfl C9 E3 ?_
 intro v3
 refine A5 rfl ?_
 refine L2 (by' := 16) 0 rfl rfl rfl rfl C9 Tryz.type9 rfl rfl rfl rfl rfl rfl (A0 rfl) (A0 rfl) rfl (by simp only [N4, A8]; omega) ?_
 intro v5_1
 refine B3 rfl ?_
 refine A4 ?_
 refine C2 ?_
 exact L5 [0] v5_1 (trivial) rfl (by rfl) (P0 rfl (C1 rfl (by rfl)))
theorem n7 (v : Value) (l : List Str) (s : Str) (hs : SrtS l) (hl : l.length ≤ 1000000) : GSpec Tryz.prog 66 [AV.is v, AV.str s] [.arr v 9 1 (l.map fun s => [AV.str s])] (fun _ : Value => True) (fun v' => [.arr v' 9 1 ((putS l s).map fun s => [AV.str s])]) (fun v' => AV.is v') := by
 refine H3 Tryz.func66 rfl Tryz.ntmps66 rfl ?_
 refine A3 (A2 ?_)
 refine A1 rfl (B6 rfl L4) ?_
 refine A4 (A3 (A2 ?_))
 refine A5 rfl ?_
 refine A1 rfl (W4 0 rfl C9 (A0 rfl) rfl) ?_
 refine B3 rfl ?_
 refine A4 (A3 (C7 ?_))
 refine J0 [(0, _), (1, _), (4, _)] _ (fun (k : Nat) => k ≤ l.length ∧ ∀ i y, k ≤ i → l[i]? = some y → Op.bytesLess s y = true) (fun (k : Nat) => []) (fun (k : Nat) => [(5, AV.int k)]) (fun (k : Nat) => k) (l.length) ?_ (K2 ⟨congrArg (fun z => some (AV.int z)) (by rw [A8]), rfl, rfl, rfl, trivial⟩) ?_
 ·exact ⟨Nat.le_refl _, fun i y h1 h2 => by (have := (List.getElem?_eq_some_iff.1 h2).1; omega)⟩
 intro k hinv
 obtain ⟨y, hy0⟩ : ∃ y, 0 < k → l[k - 1]? = some y := by (by_cases h9 : 0 < k; (have h8 := hinv.1; exact ⟨_, fun _ => List.getElem?_eq_getElem (show k - 1 < l.length by omega)⟩); exact ⟨[], fun h8 => absurd h8 h9⟩)
 refine A3 (A3 (A2 ?_))
 refine A5 rfl ?_
 refine A1 rfl (R8 rfl (A0 rfl) B4) ?_
 refine A5 rfl ?_
 refine D3 rfl (fun hc => B8 rfl (A0 rfl)) ?_
 refine D3 rfl (fun hc => B8 rfl (A0 rfl)) ?_
 refine D3 rfl (fun hc => R7 rfl (A9 rfl hc) B4 (by first | omega | ((try simp only [C8, A7, szR] at *); omega) | (have hc2 := hc; simp only [Q0, beq_iff_eq, bne_iff_ne, A8, D9] at hc2; omega))) ?_
 refine D3 rfl (fun hc => U7 0 rfl C9 E3 (A9 rfl hc) rfl (A9 rfl hc) (by have := of_decide_eq_true hc; omega) (by have := of_decide_eq_true hc; have := hinv.1; simp only [A8]; omega)) ?_
 refine D3 rfl (fun hc => g8 0 rfl (A9 rfl hc) rfl G3 (AF4 (hy0 (by have := of_decide_eq_true hc; omega)) (by have := of_decide_eq_true hc; omega))) ?_
 refine D3 rfl (fun hc => B8 rfl (A0 rfl)) ?_
 refine D3 rfl (fun hc => AR2 rfl (A9 rfl hc) (A9 rfl hc)) ?_
 refine A1 rfl (J5 rfl (A0 rfl) (F7 rfl)) ?_
 refine A4 ?_
 refine B9 (A0 rfl) ?_ ?_
 ·intro h19
  have hkt : 0 < k ∧ Op.bytesLess s y = true := by (rw [AK2] at h19; simpa using h19)
  refine C3 (C7 (A2 ?_))
  refine A5 rfl ?_
  refine A1 rfl (R7 rfl (A0 rfl) B4 (by first | omega | (simp only [C8, A7, szR] at *; omega))) ?_
  refine B3 rfl ?_
  refine A4 ?_
  refine m3 ?_
  refine K4 k (k - 1) ?_ ?_ (K2 ⟨congrArg (fun z => some (AV.int z)) (by omega), rfl, rfl, rfl, trivial⟩)
  ·exact ⟨by omega, fun i z hi hz => if e : k ≤ i then hinv.2 i z e hz else (by have e2 : i = k - 1 := (by omega); subst e2; rw [hy0 hkt.1] at hz; injection hz with hz; subst hz; exact hkt.2)⟩
  omega
 intro h19
 have hng : 0 < k → Op.bytesLess s y = false := fun h => by (rw [AK2] at h19; simpa [h] using h19)
 refine G1 ?_
 refine A3 (A3 (A2 ?_))
 refine A5 rfl ?_
 refine A1 rfl (R8 rfl (A0 rfl) B4) ?_
 refine A5 rfl ?_
 refine D3 rfl (fun hc => B8 rfl (A0 rfl)) ?_
 refine D3 rfl (fun hc => B8 rfl (A0 rfl)) ?_
 refine D3 rfl (fun hc => R7 rfl (A9 rfl hc) B4 (by first | omega | ((try simp only [C8, A7, szR] at *); omega) | (have hc2 := hc; simp only [Q0, beq_iff_eq, bne_iff_ne, A8, D9] at hc2; omega))) ?_
 refine D3 rfl (fun hc => U7 0 rfl C9 E3 (A9 rfl hc) rfl (A9 rfl hc) (by have := of_decide_eq_true hc; omega) (by have := of_decide_eq_true hc; have := hinv.1; simp only [A8]; omega)) ?_
 refine D3 rfl (fun hc => g8 0 rfl (A9 rfl hc) rfl G3 (AF4 (hy0 (by have := of_decide_eq_true hc; omega)) (by have := of_decide_eq_true hc; omega))) ?_
 refine D3 rfl (fun hc => B8 rfl (A0 rfl)) ?_
 refine D3 rfl (fun hc => u6 rfl (A9 rfl hc) (A9 rfl hc)) ?_
 refine A1 rfl (J5 rfl (A0 rfl) (F7 rfl)) ?_
 refine A4 ?_
 refine B9 (A0 rfl) ?_ ?_
 ·intro h32
  have hke : 0 < k ∧ y = s := by simpa using h32
  rw [Ae1 hs (by rw [← hke.2]; exact hy0 hke.1)]
  refine A3 (A2 ?_)
  refine A5 rfl ?_
  refine B3 rfl ?_
  refine A4 ?_
  refine C2 ?_
  exact L5 [0] v (trivial) rfl (by first | rfl | exact congrArg (fun z => [Own.arr _ 9 1 z]) (by show List.map (fun s => [AV.str s]) (l.take k ++ s :: l.drop k) = (List.map (fun s => [AV.str s]) (l.take k) ++ [[AV.str s]]) ++ List.map (fun s => [AV.str s]) (l.drop k); simp)) (P0 rfl (C1 rfl (by rfl)))
 intro h32
 have hne : 0 < k → y ≠ s := fun h e => by simp [h, e] at h32
 rw [Al0 hs hinv.1 hinv.2 (fun z hz hzz => by rw [hy0 hz] at hzz; injection hzz with hzz; subst hzz; exact ⟨hng hz, hne hz⟩)]
 refine C3 (A3 (A2 ?_))
 refine A5 rfl ?_
 refine A5 rfl ?_
 refine A1 rfl (AW3 0 rfl C9 E3 (A0 rfl) rfl (A0 rfl) (by omega) (by simp only [A8]; omega)) ?_
 refine Ak1 [] rfl rfl rfl rfl Tryz.call52 rfl (AD5 (l.drop k) (by rw [List.length_drop]; omega)) rfl (U9 (AJ8 (A0 rfl) (lt_tailm (F9 (i := 0) rfl) (by omega) (by omega))) Z8) (by first | exact V0 | (intro _; exact V0) | (intro _; first | exact L9 _ | exact G7 _ _ | exact H2 _ | exact I6 _ | exact J4) | (intro _; refine o6 ?_; (repeat (first | exact H0 | (refine D8 (by first | (first | exact L9 _ | exact G7 _ _ | exact H2 _ | exact I6 _ | exact J4) | (refine d6 ?_; (repeat (first | exact H0 | (refine D8 (by first | exact L9 _ | exact G7 _ _ | exact H2 _ | exact I6 _ | exact J4) ?_))))) ?_))); done) | (intro _; refine d6 ?_; (repeat (first | exact H0 | (refine D8 (by first | exact L9 _ | exact G7 _ _ | exact H2 _ | exact I6 _ | exact J4) ?_))); done) | ((repeat (first | exact V0 | (refine T3 (c4 ?_) ?_; (repeat (first | exact H0 | (refine D8 (by first | exact L9 _ | exact G7 _ _ | exact H2 _ | exact I6 _ | exact J4) ?_)))) | (refine T3 (c5 ?_) ?_; (repeat (first | exact c6 | (refine c8 (fun _ => ?_); (first | exact TWrite.flat _ | exact TFeedItem.flat _ | exact TIdx.flat _ | exact TVer.flat _ | (repeat (first | exact H0 | (refine D8 (by first | exact L9 _ | exact G7 _ _ | exact H2 _ | exact I6 _ | exact J4) ?_))))) | (refine c9 ?_; (first | exact TWrite.flat _ | exact TFeedItem.flat _ | exact TIdx.flat _ | exact TVer.flat _ | (repeat (first | exact H0 | (refine D8 (by first | exact L9 _ | exact G7 _ _ | exact H2 _ | exact I6 _ | exact J4) ?_))))) | (refine Z1 ?_ ?_; (first | exact TWrite.flat _ | exact TFeedItem.flat _ | exact TIdx.flat _ | exact TVer.flat _ | (repeat (first | exact H0 | (refine D8 (by first | exact L9 _ | exact G7 _ _ | exact H2 _ | exact I6 _ | exact J4) ?_))))) | refine c7 ?_ ?_))))); done) | (intro _; (repeat (first | exact V0 | (refine T3 (c4 ?_) ?_; (repeat (first | exact H0 | (refine D8 (by first | exact L9 _ | exact G7 _ _ | exact H2 _ | exact I6 _ | exact J4) ?_)))) | (refine T3 (c5 ?_) ?_; (repeat (first | exact c6 | (refine c8 (fun _ => ?_); (first | exact TWrite.flat _ | exact TFeedItem.flat _ | exact TIdx.flat _ | exact TVer.flat _ | (repeat (first | exact H0 | (refine D8 (by first | exact L9 _ | exact G7 _ _ | exact H2 _ | exact I6 _ | exact J4) ?_))))) | (refine c9 ?_; (first | exact TWrite.flat _ | exact TFeedItem.flat _ | exact TIdx.flat _ | exact TVer.flat _ | (repeat (first | exact H0 | (refine D8 (by first | exact L9 _ | exact G7 _ _ | exact H2 _ | exact I6 _ | exact J4) ?_))))) | (refine Z1 ?_ ?_; (first | exact TWrite.flat _ | exact TFeedItem.flat _ | exact TIdx.flat _ | exact TVer.flat _ | (repeat (first | exact H0 | (refine D8 (by first | exact L9 _ | exact G7 _ _ | exact H2 _ | exact I6 _ | exact J4) ?_))))) | refine c7 ?_ ?_))))); done)) (by first | exact V0 | (intro _; exact V0) | (intro _; first | exact L9 _ | exact G7 _ _ | exact H2 _ | exact I6 _ | exact J4) | (intro _; refine o6 ?_; (repeat (first | exact H0 | (refine D8 (by first | (first | exact L9 _ | exact G7 _ _ | exact H2 _ | exact I6 _ | exact J4) | (refine d6 ?_; (repeat (first | exact H0 | (refine D8 (by first | exact L9 _ | exact G7 _ _ | exact H2 _ | exact I6 _ | exact J4) ?_))))) ?_))); done) | (intro _; refine d6 ?_; (repeat (first | exact H0 | (refine D8 (by first | exact L9 _ | exact G7 _ _ | exact H2 _ | exact I6 _ | exact J4) ?_))); done) | ((repeat (first | exact V0 | (refine T3 (c4 ?_) ?_; (repeat (first | exact H0 | (refine D8 (by first | exact L9 _ | exact G7 _ _ | exact H2 _ | exact I6 _ | exact J4) ?_)))) | (refine T3 (c5 ?_) ?_; (repeat (first | exact c6 | (refine c8 (fun _ => ?_); (first | exact TWrite.flat _ | exact TFeedItem.flat _ | exact TIdx.flat _ | exact TVer.flat _ | (repeat (first | exact H0 | (refine D8 (by first | exact L9 _ | exact G7 _ _ | exact H2 _ | exact I6 _ | exact J4) ?_))))) | (refine c9 ?_; (first | exact TWrite.flat _ | exact TFeedItem.flat _ | exact TIdx.flat _ | exact TVer.flat _ | (repeat (first | exact H0 | (refine D8 (by first | exact L9 _ | exact G7 _ _ | exact H2 _ | exact I6 _ | exact J4) ?_))))) | (refine Z1 ?_ ?_; (first | exact TWrite.flat _ | exact TFeedItem.flat _ | exact TIdx.flat _ | exact TVer.flat _ | (repeat (first | exact H0 | (refine D8 (by first | exact L9 _ | exact G7 _ _ | exact H2 _ | exact I6 _ | exact J4) ?_))))) | refine c7 ?_ ?_))))); done) | (intro _; (repeat (first | exact V0 | (refine T3 (c4 ?_) ?_; (repeat (first | exact H0 | (refine D8 (by first | exact L9 _ | exact G7 _ _ | exact H2 _ | exact I6 _ | exact J4) ?_)))) | (refine T3 (c5 ?_) ?_; (repeat (first | exact c6 | (refine c8 (fun _ => ?_); (first | exact TWrite.flat _ | exact TFeedItem.flat _ | exact TIdx.flat _ | exact TVer.flat _ | (repeat (first | exact H0 | (refine D8 (by first | exact L9 _ | exact G7 _ _ | exact H2 _ | exact I6 _ | exact J4) ?_))))) | (refine c9 ?_; (first | exact TWrite.flat _ | exact TFeedItem.flat _ | exact TIdx.flat _ | exact TVer.flat _ | (repeat (first | exact H0 | (refine D8 (by first | exact L9 _ | exact G7 _ _ | exact H2 _ | exact I6 _ | exact J4) ?_))))) | (refine Z1 ?_ ?_; (first | exact TWrite.flat _ | exact TFeedItem.flat _ | exact TIdx.flat _ | exact TVer.flat _ | (repeat (first | exact H0 | (refine D8 (by first | exact L9 _ | exact G7 _ _ | exact H2 _ | exact I6 _ | exact J4) ?_))))) | refine c7 ?_ ?_))))); done)) (by first | exact V0 | (intro _; exact V0) | (intro _; first | exact L9 _ | exact G7 _ _ | exact H2 _ | exact I6 _ | exact J4) | (intro _; refine o6 ?_; (repeat (first | exact H0 | (refine D8 (by first | (first | exact L9 _ | exact G7 _ _ | exact H2 _ | exact I6 _ | exact J4) | (refine d6 ?_; (repeat (first | exact H0 | (refine D8 (by first | exact L9 _ | exact G7 _ _ | exact H2 _ | exact I6 _ | exact J4) ?_))))) ?_))); done) | (intro _; refine d6 ?_; (repeat (first | exact H0 | (refine D8 (by first | exact L9 _ | exact G7 _ _ | exact H2 _ | exact I6 _ | exact J4) ?_))); done) | ((repeat (first | exact V0 | (refine T3 (c4 ?_) ?_; (repeat (first | exact H0 | (refine D8 (by first | exact L9 _ | exact G7 _ _ | exact H2 _ | exact I6 _ | exact J4) ?_)))) | (refine T3 (c5 ?_) ?_; (repeat (first | exact c6 | (refine c8 (fun _ => ?_); (first | exact TWrite.flat _ | exact TFeedItem.flat _ | exact TIdx.flat _ | exact TVer.flat _ | (repeat (first | exact H0 | (refine D8 (by first | exact L9 _ | exact G7 _ _ | exact H2 _ | exact I6 _ | exact J4) ?_))))) | (refine c9 ?_; (first | exact TWrite.flat _ | exact TFeedItem.flat _ | exact TIdx.flat _ | exact TVer.flat _ | (repeat (first | exact H0 | (refine D8 (by first | exact L9 _ | exact G7 _ _ | exact H2 _ | exact I6 _ | exact J4) ?_))))) | (refine Z1 ?_ ?_; (first | exact TWrite.flat _ | exact TFeedItem.flat _ | exact TIdx.flat _ | exact TVer.flat _ | (repeat (first | exact H0 | (refine D8 (by first | exact L9 _ | exact G7 _ _ | exact H2 _ | exact I6 _ | exact J4) ?_))))) | refine c7 ?_ ?_))))); done) | (intro _; (repeat (first | exact V0 | (refine T3 (c4 ?_) ?_; (repeat (first | exact H0 | (refine D8 (by first | exact L9 _ | exact G7 _ _ | exact H2 _ | exact I6 _ | exact J4) ?_)))) | (refine T3 (c5 ?_) ?_; (repeat (first | exact c6 | (refine c8 (fun _ => ?_); (first | exact TWrite.flat _ | exact TFeedItem.flat _ | exact TIdx.flat _ | exact TVer.flat _ | (repeat (first | exact H0 | (refine D8 (by first | exact L9 _ | exact G7 _ _ | exact H2 _ | exact I6 _ | exact J4) ?_))))) | (refine c9 ?_; (first | exact TWrite.flat _ | exact TFeedItem.flat _ | exact TIdx.flat _ | exact TVer.flat _ | (repeat (first | exact H0 | (refine D8 (by first | exact L9 _ | exact G7 _ _ | exact H2 _ | exact I6 _ | exact J4) ?_))))) | (refine Z1 ?_ ?_; (first | exact TWrite.flat _ | exact TFeedItem.flat _ | exact TIdx.flat _ | exact TVer.flat _ | (repeat (first | exact H0 | (refine D8 (by first | exact L9 _ | exact G7 _ _ | exact H2 _ | exact I6 _ | exact J4) ?_))))) | refine c7 ?_ ?_))))); done)) ?_
 intro x37 ok37
 refine B3 rfl ?_
 refine A4 (A3 ?_)
 refine AWP.le (X6 [0] 6 rfl rfl (M8 (F9 (i := 0) rfl) I7) (O0 0 rfl rfl O3)) ?_
 refine A2 ?_
 refine A5 rfl ?_
 refine A5 rfl ?_
 refine As3 0 rfl rfl rfl rfl C9 E3 (A0 rfl) rfl (A0 rfl) (by omega) (by simp only [A8]; omega) ?_
 intro v40_1
 rw [Int.toNat_natCast, ← List.map_take]
 refine Ak1 [] rfl rfl rfl rfl Tryz.call52 rfl (AD5 (l.take k) (by rw [D9]; omega)) rfl (U9 (AW1 0 (A0 rfl) rfl) Z8) (by first | exact V0 | (intro _; exact V0) | (intro _; first | exact L9 _ | exact G7 _ _ | exact H2 _ | exact I6 _ | exact J4) | (intro _; refine o6 ?_; (repeat (first | exact H0 | (refine D8 (by first | (first | exact L9 _ | exact G7 _ _ | exact H2 _ | exact I6 _ | exact J4) | (refine d6 ?_; (repeat (first | exact H0 | (refine D8 (by first | exact L9 _ | exact G7 _ _ | exact H2 _ | exact I6 _ | exact J4) ?_))))) ?_))); done) | (intro _; refine d6 ?_; (repeat (first | exact H0 | (refine D8 (by first | exact L9 _ | exact G7 _ _ | exact H2 _ | exact I6 _ | exact J4) ?_))); done) | ((repeat (first | exact V0 | (refine T3 (c4 ?_) ?_; (repeat (first | exact H0 | (refine D8 (by first | exact L9 _ | exact G7 _ _ | exact H2 _ | exact I6 _ | exact J4) ?_)))) | (refine T3 (c5 ?_) ?_; (repeat (first | exact c6 | (refine c8 (fun _ => ?_); (first | exact TWrite.flat _ | exact TFeedItem.flat _ | exact TIdx.flat _ | exact TVer.flat _ | (repeat (first | exact H0 | (refine D8 (by first | exact L9 _ | exact G7 _ _ | exact H2 _ | exact I6 _ | exact J4) ?_))))) | (refine c9 ?_; (first | exact TWrite.flat _ | exact TFeedItem.flat _ | exact TIdx.flat _ | exact TVer.flat _ | (repeat (first | exact H0 | (refine D8 (by first | exact L9 _ | exact G7 _ _ | exact H2 _ | exact I6 _ | exact J4) ?_))))) | (refine Z1 ?_ ?_; (first | exact TWrite.flat _ | exact TFeedItem.flat _ | exact TIdx.flat _ | exact TVer.flat _ | (repeat (first | exact H0 | (refine D8 (by first | exact L9 _ | exact G7 _ _ | exact H2 _ | exact I6 _ | exact J4) ?_))))) | refine c7 ?_ ?_))))); done) | (intro _; (repeat (first | exact V0 | (refine T3 (c4 ?_) ?_; (repeat (first | exact H0 | (refine D8 (by first | exact L9 _ | exact G7 _ _ | exact H2 _ | exact I6 _ | exact J4) ?_)))) | (refine T3 (c5 ?_) ?_; (repeat (first | exact c6 | (refine c8 (fun _ => ?_); (first | exact TWrite.flat _ | exact TFeedItem.flat _ | exact TIdx.flat _ | exact TVer.flat _ | (repeat (first | exact H0 | (refine D8 (by first | exact L9 _ | exact G7 _ _ | exact H2 _ | exact I6 _ | exact J4) ?_))))) | (refine c9 ?_; (first | exact TWrite.flat _ | exact TFeedItem.flat _ | exact TIdx.flat _ | exact TVer.flat _ | (repeat (first | exact H0 | (refine D8 (by first | exact L9 _ | exact G7 _ _ | exact H2 _ | exact I6 _ | exact J4) ?_))))) | (refine Z1 ?_ ?_; (first | exact TWrite.flat _ | exact TFeedItem.flat _ | exact TIdx.flat _ | exact TVer.flat _ | (repeat (first | exact H0 | (refine D8 (by first | exact L9 _ | exact G7 _ _ | exact H2 _ | exact I6 _ | exact J4) ?_))))) | refine c7 ?_ ?_))))); done)) (by first | exact V0 | (intro _; exact V0) | (intro _; first | exact L9 _ | exact G7 _ _ | exact H2 _ | exact I6 _ | exact J4) | (intro _; refine o6 ?_; (repeat (first | exact H0 | (refine D8 (by first | (first | exact L9 _ | exact G7 _ _ | exact H2 _ | exact I6 _ | exact J4) | (refine d6 ?_; (repeat (first | exact H0 | (refine D8 (by first | exact L9 _ | exact G7 _ _ | exact H2 _ | exact I6 _ | exact J4) ?_))))) ?_))); done) | (intro _; refine d6 ?_; (repeat (first | exact H0 | (refine D8 (by first | exact L9 _ | exact G7 _ _ | exact H2 _ | exact I6 _ | exact J4) ?_))); done) | ((repeat (first | exact V0 | (refine T3 (c4 ?_) ?_; (repeat (first | exact H0 | (refine D8 (by first | exact L9 _ | exact G7 _ _ | exact H2 _ | exact I6 _ | exact J4) ?_)))) | (refine T3 (c5 ?_) ?_; (repeat (first | exact c6 | (refine c8 (fun _ => ?_); (first | exact TWrite.flat _ | exact TFeedItem.flat _ | exact TIdx.flat _ | exact TVer.flat _ | (repeat (first | exact H0 | (refine D8 (by first | exact L9 _ | exact G7 _ _ | exact H2 _ | exact I6 _ | exact J4) ?_))))) | (refine c9 ?_; (first | exact TWrite.flat _ | exact TFeedItem.flat _ | exact TIdx.flat _ | exact TVer.flat _ | (repeat (first | exact H0 | (refine D8 (by first | exact L9 _ | exact G7 _ _ | exact H2 _ | exact I6 _ | exact J4) ?_))))) | (refine Z1 ?_ ?_; (first | exact TWrite.flat _ | exact TFeedItem.flat _ | exact TIdx.flat _ | exact TVer.flat _ | (repeat (first | exact H0 | (refine D8 (by first | exact L9 _ | exact G7 _ _ | exact H2 _ | exact I6 _ | exact J4) ?_))))) | refine c7 ?_ ?_))))); done) | (intro _; (repeat (first | exact V0 | (refine T3 (c4 ?_) ?_; (repeat (first | exact H0 | (refine D8 (by first | exact L9 _ | exact G7 _ _ | exact H2 _ | exact I6 _ | exact J4) ?_)))) | (refine T3 (c5 ?_) ?_; (repeat (first | exact c6 | (refine c8 (fun _ => ?_); (first | exact TWrite.flat _ | exact TFeedItem.flat _ | exact TIdx.flat _ | exact TVer.flat _ | (repeat (first | exact H0 | (refine D8 (by first | exact L9 _ | exact G7 _ _ | exact H2 _ | exact I6 _ | exact J4) ?_))))) | (refine c9 ?_; (first | exact TWrite.flat _ | exact TFeedItem.flat _ | exact TIdx.flat _ | exact TVer.flat _ | (repeat (first | exact H0 | (refine D8 (by first | exact L9 _ | exact G7 _ _ | exact H2 _ | exact I6 _ | exact J4) ?_))))) | (refine Z1 ?_ ?_; (first | exact TWrite.flat _ | exact TFeedItem.flat _ | exact TIdx.flat _ | exact TVer.flat _ | (repeat (first | exact H0 | (refine D8 (by first | exact L9 _ | exact G7 _ _ | exact H2 _ | exact I6 _ | exact J4) ?_))))) | refine c7 ?_ ?_))))); done)) (by first | exact V0 | (intro _; exact V0) | (intro _; first | exact L9 _ | exact G7 _ _ | exact H2 _ | exact I6 _ | exact J4) | (intro _; refine o6 ?_; (repeat (first | exact H0 | (refine D8 (by first | (first | exact L9 _ | exact G7 _ _ | exact H2 _ | exact I6 _ | exact J4) | (refine d6 ?_; (repeat (first | exact H0 | (refine D8 (by first | exact L9 _ | exact G7 _ _ | exact H2 _ | exact I6 _ | exact J4) ?_))))) ?_))); done) | (intro _; refine d6 ?_; (repeat (first | exact H0 | (refine D8 (by first | exact L9 _ | exact G7 _ _ | exact H2 _ | exact I6 _ | exact J4) ?_))); done) | ((repeat (first | exact V0 | (refine T3 (c4 ?_) ?_; (repeat (first | exact H0 | (refine D8 (by first | exact L9 _ | exact G7 _ _ | exact H2 _ | exact I6 _ | exact J4) ?_)))) | (refine T3 (c5 ?_) ?_; (repeat (first | exact c6 | (refine c8 (fun _ => ?_); (first | exact TWrite.flat _ | exact TFeedItem.flat _ | exact TIdx.flat _ | exact TVer.flat _ | (repeat (first | exact H0 | (refine D8 (by first | exact L9 _ | exact G7 _ _ | exact H2 _ | exact I6 _ | exact J4) ?_))))) | (refine c9 ?_; (first | exact TWrite.flat _ | exact TFeedItem.flat _ | exact TIdx.flat _ | exact TVer.flat _ | (repeat (first | exact H0 | (refine D8 (by first | exact L9 _ | exact G7 _ _ | exact H2 _ | exact I6 _ | exact J4) ?_))))) | (refine Z1 ?_ ?_; (first | exact TWrite.flat _ | exact TFeedItem.flat _ | exact TIdx.flat _ | exact TVer.flat _ | (repeat (first | exact H0 | (refine D8 (by first | exact L9 _ | exact G7 _ _ | exact H2 _ | exact I6 _ | exact J4) ?_))))) | refine c7 ?_ ?_))))); done) | (intro _; (repeat (first | exact V0 | (refine T3 (c4 ?_) ?_; (repeat (first | exact H0 | (refine D8 (by first | exact L9 _ | exact G7 _ _ | exact H2 _ | exact I6 _ | exact J4) ?_)))) | (refine T3 (c5 ?_) ?_; (repeat (first | exact c6 | (refine c8 (fun _ => ?_); (first | exact TWrite.flat _ | exact TFeedItem.flat _ | exact TIdx.flat _ | exact TVer.flat _ | (repeat (first | exact H0 | (refine D8 (by first | exact L9 _ | exact G7 _ _ | exact H2 _ | exact I6 _ | exact J4) ?_))))) | (refine c9 ?_; (first | exact TWrite.flat _ | exact TFeedItem.flat _ | exact TIdx.flat _ | exact TVer.flat _ | (repeat (first | exact H0 | (refine D8 (by first | exact L9 _ | exact G7 _ _ | exact H2 _ | exact I6 _ | exact J4) ?_))))) | (refine Z1 ?_ ?_; (first | exact TWrite.flat _ | exact TFeedItem.flat _ | exact TIdx.flat _ | exact TVer.flat _ | (repeat (first | exact H0 | (refine D8 (by first | exact L9 _ | exact G7 _ _ | exact H2 _ | exact I6 _ | exact J4) ?_))))) | refine c7 ?_ ?_))))); done)) ?_
 intro x41 ok41
 refine A5 rfl ?_
 refine A1 rfl (K9 rfl C9 E3 Tryz.zeroValue9 rfl rfl rfl rfl (D0 (A0 rfl) (L7 _) G9) rfl rfl) ?_
 refine L2 (by' := 16) 0 rfl rfl rfl rfl C9 Tryz.type9 rfl rfl rfl rfl rfl rfl (A0 rfl) (A0 rfl) rfl (by simp only [A8, D9, A7]; omega) ?_
 intro v44_2
 refine A5 rfl ?_
 refine L2 (by' := 16) 0 rfl rfl rfl rfl C9 Tryz.type9 rfl rfl rfl rfl rfl rfl (A0 rfl) (A0 rfl) rfl (by simp only [A8, D9, List.length_drop, J6, A7]; omega) ?_
 intro v46_3
 refine B3 rfl ?_
 refine A4 ?_
 refine C2 ?_
 exact L5 [0] v46_3 (trivial) rfl (by first | rfl | exact congrArg (fun z => [Own.arr _ 9 1 z]) (by show List.map (fun s => [AV.str s]) (l.take k ++ s :: l.drop k) = (List.map (fun s => [AV.str s]) (l.take k) ++ [[AV.str s]]) ++ List.map (fun s => [AV.str s]) (l.drop k); simp)) (P0 rfl (C1 rfl (by rfl)))
theorem Av7 (r : List Str) (w : List TWrite) (hr : r.length ≤ 400000) (hw : w.length ≤ 400000) : GSpec Tryz.prog 75 [strs r, AV.list 3 (w.map TWrite.cs)] [] (fun _ : Value => True) (fun v => [.arr v 9 1 ((putAllS (r ++ wKeys w) []).map fun s => [AV.str s])]) (fun v => AV.is v) := by
 refine H3 Tryz.func75 rfl Tryz.ntmps75 rfl ?_
 refine A3 (A2 ?_)
 refine A1 rfl (B6 rfl L4) ?_
 refine A4 (A3 (A2 ?_))
 refine S0 9 1 rfl rfl rfl rfl L4 ?_
 intro v5
 refine A4 (A3 (A3 (A2 ?_)))
 refine A5 rfl ?_
 refine A1 rfl (F6 rfl C9 (A0 rfl)) ?_
 refine A1 rfl (B8 rfl B4) ?_
 refine A4 (C7 ?_)
 refine P3 [(1, _), (4, _), (10, _), (11, _)] _ (fun (i : Nat) (v : Value) => i ≤ r.length) (fun (i : Nat) (v : Value) => [.arr v 9 1 ((putAllS (r.take i) []).map fun s => [AV.str s])]) (fun (i : Nat) (v : Value) => [(5, AV.is v), (12, AV.int i)]) (fun (i : Nat) (v : Value) => r.length - i) (0) (v5) ?_ (O8 (by rfl) ⟨rfl, rfl, rfl, rfl, rfl, rfl, trivial⟩) ?_
 ·exact Nat.zero_le _
 intro i v hinv
 refine A3 (A2 ?_)
 refine A1 rfl (J8 rfl (A0 rfl) (A0 rfl)) ?_
 refine A4 (A3 ?_)
 refine B9 (A0 rfl) ?_ ?_
 ·intro h13
  have k13 := of_decide_eq_true h13; try simp only [A8] at k13
  have hlt : i < r.length := by omega
  obtain ⟨x, hx⟩ := get_some hlt
  have hpl := r4 (r.take i) []
  rw [D9] at hpl
  refine C3 (A3 (C7 (A3 (A2 ?_))))
  refine A1 rfl (I2 rfl C9 E3 (A0 rfl) (A0 rfl) hx (by first | omega | (simp only [C8, A7, szR] at *; omega))) ?_
  refine A1 rfl (L6 rfl (A0 rfl) G3 rfl) ?_
  refine B3 rfl ?_
  refine A4 (A2 ?_)
  refine A5 rfl ?_
  refine A5 rfl ?_
  refine H9 [0] rfl rfl rfl rfl Tryz.call66 rfl (n7 v (putAllS (r.take i) []) x (o0 List.Pairwise.nil).1 (by simp only [N4] at hpl; omega)) (A6 (A0 rfl) (A6 (A0 rfl) C0)) rfl ?_
  intro x18 ok18
  refine B3 rfl ?_
  refine A4 (A2 ?_)
  refine A1 rfl (G0 rfl (A0 rfl) B4 (by first | omega | (simp only [C8, A7, szR] at *; omega))) ?_
  refine A5 rfl ?_
  refine A4 ?_
  refine O2 i v (i + 1) (x18) ?_ ?_ (O8 (by exact congrArg (fun z => [Own.arr _ 9 1 (List.map (fun s => [AV.str s]) z)]) (by rw [List.take_add_one, hx]; exact (u9 _ _ _).symm)) ⟨rfl, rfl, rfl, rfl, rfl, rfl, trivial⟩)
  ·omega
  omega
 intro h13
 have k13 := of_decide_eq_false h13; try simp only [A8] at k13
 have hge : i = r.length := by omega
 rw [hge, List.take_length]
 refine G1 ?_
 refine A3 (A3 (A2 ?_))
 refine A5 rfl ?_
 refine A1 rfl (F6 rfl D1 (A0 rfl)) ?_
 refine A1 rfl (B8 rfl B4) ?_
 refine A4 (C7 ?_)
 refine P3 [(4, _), (20, _), (21, _)] _ (fun (j : Nat) (u : Value) => j ≤ w.length) (fun (j : Nat) (u : Value) => [.arr u 9 1 ((putAllS (r ++ wKeys (w.take j)) []).map fun s => [AV.str s])]) (fun (j : Nat) (u : Value) => [(5, AV.is u), (22, AV.int j)]) (fun (j : Nat) (u : Value) => w.length - j) (0) (v) ?_ (O8 (by (show [_] = [_]; simp [wKeys])) ⟨rfl, rfl, rfl, rfl, rfl, trivial⟩) ?_
 ·exact Nat.zero_le _
 intro j u hinv
 refine A3 (A2 ?_)
 refine A1 rfl (J8 rfl (A0 rfl) (A0 rfl)) ?_
 refine A4 (A3 ?_)
 refine B9 (A0 rfl) ?_ ?_
 ·intro h23
  have k23 := of_decide_eq_true h23; try simp only [A8] at k23
  have hlt : j < w.length := by omega
  obtain ⟨x, hx⟩ := get_some hlt
  have hpl := r4 (r ++ wKeys (w.take j)) []
  simp only [J6, wKeys, A8, D9, N4] at hpl
  refine C3 (A3 (C7 (A3 (A2 ?_))))
  refine A1 rfl (I2 rfl D1 E5 (A0 rfl) (A0 rfl) hx (by first | omega | (simp only [C8, A7, szR] at *; omega))) ?_
  refine A1 rfl (K6 rfl (A0 rfl) P8 E5) ?_
  refine F5 rfl rfl rfl rfl Tryz.zeroValue79 rfl ?_
  intro b9
  refine D2 0 rfl rfl rfl (A0 rfl) (A0 rfl) (D6 _) rfl E5 rfl ?_
  refine A4 (A2 ?_)
  refine A5 rfl ?_
  refine A1 rfl (B1 0 rfl J3 rfl E3 (A0 rfl) rfl) ?_
  refine A1 rfl (B0 0 rfl (A0 rfl) rfl G3 rfl) ?_
  refine H9 [1] rfl rfl rfl rfl Tryz.call66 rfl (n7 u (putAllS (r ++ wKeys (w.take j)) []) x.Key (o0 List.Pairwise.nil).1 (by simp only [wKeys] at hpl ⊢; omega)) (A6 (A0 rfl) (A6 (A0 rfl) C0)) rfl ?_
  intro x29 ok29
  refine B3 rfl ?_
  refine A4 (A2 ?_)
  refine A1 rfl (G0 rfl (A0 rfl) B4 (by first | omega | (simp only [C8, A7, szR] at *; omega))) ?_
  refine A5 rfl ?_
  refine A4 ?_
  refine O2 j u (j + 1) (x29) ?_ ?_ (Le.trans (F8 [1, 0] rfl) (K0 1 (by exact congrArg (fun z => [Own.arr _ 9 1 (List.map (fun s => [AV.str s]) z)]) (by rw [List.take_add_one, hx]; simp only [wKeys, List.map_append, ← List.append_assoc]; exact (u9 _ _ _).symm)) ⟨rfl, rfl, rfl, rfl, rfl, trivial⟩))
  ·omega
  omega
 intro h23
 have k23 := of_decide_eq_false h23; try simp only [A8] at k23
 have hge : j = w.length := by omega
 rw [hge, List.take_length]
 refine G1 ?_
 refine A3 (A2 ?_)
 refine A5 rfl ?_
 refine B3 rfl ?_
 refine A4 ?_
 refine C2 ?_
 exact L5 [0] u (trivial) rfl (by rfl) (P0 rfl (C1 rfl (by rfl)))
end Go.Proofs.YtoaoicnnimjbeaaGreat

namespace Go.M
open Go.AV
def orderR (o : TOrder) : Bool := goodRec ⟨1, o.Txn, 1, 0, o.Reads, o.Writes, false⟩
theorem BN3 (o : TOrder) : orderR o = (isTxnR o.Txn && goodRec ⟨1, 1, 1, 0, o.Reads, o.Writes, false⟩) := by
  unfold orderR goodRec good1
  simp only [if_true]
  rw [show isTxnR 1 = true from rfl]
  cases isTxnR o.Txn <;> simp
theorem Af3 {n : Int} : ∀ {l : List Int} {i : Nat}, (∀ j x, j < i → l[j]? = some x → x < n) → i ≤ l.length → (∀ x, l[i]? = some x → ¬ x < n) →
    (∀ x, l[i]? = some x → x = n → putIb l n = l) ∧ ((∀ x, l[i]? = some x → x ≠ n) → putIb l n = l.take i ++ n :: l.drop i)
  | [], i, _, hi, _ => by simp at hi; subst hi; exact ⟨fun x hx => by simp at hx, fun _ => rfl⟩
  | y :: l, 0, _, _, h2 => by
    have h := h2 y rfl
    unfold putIb
    rw [if_neg h]
    refine ⟨fun x hx hn => ?_, fun hn => ?_⟩
    · simp at hx; subst hx; rw [if_pos hn]
    · rw [if_neg (hn y rfl)]; rfl
  | y :: l, i + 1, h1, hi, h2 => by
    have hy := h1 0 y (by omega) rfl
    obtain ⟨k1, k2⟩ := Af3 (n := n) (l := l) (i := i) (fun j x hj hx => h1 (j + 1) x (by omega) (by simpa using hx)) (by simpa using hi) (fun x hx => h2 x (by simpa using hx))
    unfold putIb
    rw [if_pos hy]
    refine ⟨fun x hx hn => by rw [k1 x (by simpa using hx) hn], fun hn => by rw [k2 fun x hx => hn x (by simpa using hx)]; rfl⟩
theorem BN4 (l : List Int) (n : Int) : (putIb l n).length ≤ l.length + 1 := by
  induction l with
  | nil => simp [putIb]
  | cons y l ih =>
    unfold putIb
    split
    · rw [I5, I5]; omega
    · split <;> simp
end Go.M
namespace Go.Proofs.YtoaoicnnimjbeaaGreat
open Go Go.AV Go.M
attribute [local irreducible] OpW OpA OpS AWP FSpec ESpec GSpec OpE RetOk RetOkG RvDen Le Ev GuardIs SrcIs
theorem AU8 {l : List Int} {i j : Nat} {s : Int} (h : l[i]? = some s) (hj : j = i * 1) : ((l.map fun s => [AV.int s]).flatten)[j]? = some (AV.int s) := by
  rw [hj, Nat.mul_one]
  have e : (l.map fun s => [AV.int s]).flatten = l.map AV.int := by
    clear h
    induction l with
    | nil => rfl
    | cons x l ih => simp [ih]
  rw [e, List.getElem?_map, h]; rfl
theorem Ai3 (v : Value) (l : List Int) (hl : l.length ≤ 4194304) : GSpec Tryz.prog 72 [AV.is v] [.arr v 3 1 (l.map fun s => [AV.int s])]
   (fun _ : Value => True) (fun v => [.arr v 3 1 ((cmpL l).map fun s => [AV.int s])]) (fun v => AV.is v) := by
 refine H3 Tryz.func72 rfl Tryz.ntmps72 rfl ?_
 refine A3 (A2 ?_)
 refine A1 rfl (B6 rfl L4) ?_
 refine A4 (A3 (A3 (A2 ?_)))
 refine A5 rfl ?_
 refine A1 rfl (W4 0 rfl I4 (A0 rfl) rfl) ?_
 refine A1 rfl (J8 rfl (A0 rfl) B4) ?_
 refine A4 ?_
 refine B9 (A0 rfl) ?_ ?_
 ·intro h8
  have k8 := of_decide_eq_true h8; try simp only [A8] at k8
  have hall : cmpL l = l := by (unfold cmpL; rw [o8 (Nat.le_refl _) (fun i h1 h2 => by omega), List.take_length])
  refine A3 (A2 ?_)
  refine A5 rfl ?_
  refine B3 rfl ?_
  refine A4 ?_
  refine C2 ?_
  exact L5 [0] v (trivial) rfl (by first | exact congrArg (fun z => [Own.arr _ 3 1 (List.map (fun s => [AV.int s]) z)]) hall | (refine congrArg (fun z => [Own.arr _ 3 1 z]) ?_; exact (AE1 hinv.2.2.2.2.1 hge (by omega)).symm)) (P0 rfl (C1 rfl (by first | rfl | (refine congrArg AV.bool ?_; simp_all; done))))
 intro h8
 have k8 := of_decide_eq_false h8; try simp only [A8] at k8
 refine C3 (A3 (A3 (A2 ?_)))
 refine A1 rfl (B6 rfl B4) ?_
 refine A4 (C7 ?_)
 refine J0 [(0, _)] _ (fun (k : Nat) => (1 ≤ k ∧ k ≤ l.length) ∧ ∀ i, 1 ≤ i → i < k → l[i]? ≠ l[i - 1]?) (fun (k : Nat) => []) (fun (k : Nat) => [(3, AV.int k)]) (fun (k : Nat) => l.length - k) (1) ?_ (K2 ⟨rfl, rfl, trivial⟩) ?_
 ·exact ⟨⟨Nat.le_refl _, by omega⟩, fun i h1 h2 => by omega⟩
 intro k hinv
 refine A3 (A3 (A2 ?_))
 refine A5 rfl ?_
 refine A5 rfl ?_
 refine A1 rfl (W4 0 rfl I4 (A0 rfl) rfl) ?_
 refine A1 rfl (J8 rfl (A0 rfl) (A0 rfl)) ?_
 refine A4 ?_
 refine B9 (A0 rfl) ?_ ?_
 ·intro h13
  have k13 := of_decide_eq_true h13; try simp only [A8] at k13
  have hlt : k < l.length := by omega
  obtain ⟨x, hx⟩ := get_some hlt
  obtain ⟨y, hy⟩ := get_some (show k - 1 < l.length by omega)
  refine C3 (A3 (C7 (A3 ?_)))
  refine L1 (by kernel_rfl) (by kernel_rfl) rfl ?_
  refine B2 rfl rfl (B8 rfl (A0 rfl)) ?_
  refine B2 rfl rfl (B8 rfl (A0 rfl)) ?_
  refine B2 rfl rfl (U7 0 rfl I4 B5 (A0 rfl) rfl (A0 rfl) (by first | omega | (simp only [C8, A7, szR] at *; omega)) (by first | omega | (simp only [C8, A7, szR] at *; omega))) ?_
  refine B2 rfl rfl (g8 0 rfl (A0 rfl) rfl C6 (AU8 hx (by omega))) ?_
  refine B2 rfl rfl (B8 rfl (A0 rfl)) ?_
  refine B2 rfl rfl (B8 rfl (A0 rfl)) ?_
  refine B2 rfl rfl (R7 rfl (A0 rfl) B4 (by first | omega | (simp only [C8, A7, szR] at *; omega))) ?_
  refine B2 rfl rfl (U7 0 rfl I4 B5 (A0 rfl) rfl (A0 rfl) (by first | omega | (simp only [C8, A7, szR] at *; omega)) (by first | omega | (simp only [C8, A7, szR] at *; omega))) ?_
  refine B2 rfl rfl (g8 0 rfl (A0 rfl) rfl C6 (AU8 hy (by omega))) ?_
  refine B2 rfl rfl (O1 rfl (A0 rfl) (A0 rfl)) ?_
  refine P7 ?_
  refine B9 (A0 rfl) ?_ ?_
  ·intro h25
   have k25 := M7 h25; try simp only [A8] at k25
   have hxy : l[k]? = l[k - 1]? := by (rw [hx, hy]; have h9 := h25; simp at h9; rw [h9])
   have hinv0 := hinv
   refine A3 (A2 ?_)
   refine A5 rfl ?_
   refine A5 rfl ?_
   refine A1 rfl (AW3 0 rfl I4 B5 (A0 rfl) rfl (A0 rfl) (by first | omega | (simp only [C8, A7, szR] at *; omega)) (by first | omega | (simp only [C8, A7, szR] at *; omega))) ?_
   refine B3 rfl ?_
   refine A4 (A3 (A3 (A2 ?_)))
   refine A1 rfl (B6 rfl B4) ?_
   refine A4 (C7 ?_)
   refine d7 [(0, _), (4, _), (10, _), (11, _), (12, _), (13, _), (16, _), (17, _), (18, _), (19, _), (20, _), (21, _), (22, _), (23, _), (24, _), (25, _), (26, _), (27, _), (28, _)] _ (fun (i : Nat) (j : Nat) (m : List Int) => 1 ≤ j ∧ k + j ≤ l.length ∧ i + 1 ≤ k + j ∧ m.length = l.length ∧ m.take i = cmpN l (k + j) ∧ m.drop (k + j - 1) = l.drop (k + j - 1)) (fun (i : Nat) (j : Nat) (m : List Int) => [.arr v 3 1 (m.map fun s => [AV.int s])]) (fun (i : Nat) (j : Nat) (m : List Int) => [(3, AV.int i), (5, AV.int j)]) (fun (i : Nat) (j : Nat) (m : List Int) => l.length - (k + j)) (k) (1) (l) ?_ (O8 (by rfl) ⟨rfl, rfl, rfl, rfl, rfl, rfl, rfl, rfl, rfl, rfl, rfl, rfl, rfl, rfl, rfl, rfl, rfl, rfl, rfl, rfl, rfl, trivial⟩) ?_
   ·exact ⟨Nat.le_refl _, by omega, by omega, rfl, by rw [AS2 (by omega) hxy, o8 (by omega) hinv0.2], rfl⟩
   intro i j m hinv
   refine A3 (A3 (A2 ?_))
   refine A5 rfl ?_
   refine A5 rfl ?_
   refine A1 rfl (w_tlen 0 rfl I4 (A0 rfl) rfl) ?_
   refine A1 rfl (J8 rfl (A0 rfl) (A0 rfl)) ?_
   refine A4 ?_
   refine B9 (A0 rfl) ?_ ?_
   ·intro h32
    have k32 := of_decide_eq_true h32; try simp only [A8] at k32
    have hm := hinv.2.2.2.1
    have hlt1 : k + j < l.length := by omega
    obtain ⟨x1, hx1⟩ := get_some hlt1
    obtain ⟨y1, hy1⟩ := get_some (show k + j - 1 < l.length by omega)
    have hmx := u7 hinv.2.2.2.2.2 hx1 (by omega)
    have hmy := u7 hinv.2.2.2.2.2 hy1 (by omega)
    refine C3 (A3 (C7 (A3 ?_)))
    refine L1 (by kernel_rfl) (by kernel_rfl) rfl ?_
    refine B2 rfl rfl (B8 rfl (A0 rfl)) ?_
    refine B2 rfl rfl (B8 rfl (A0 rfl)) ?_
    refine B2 rfl rfl (AL2 0 rfl I4 B5 (A0 rfl) rfl (A0 rfl) (by omega) (by simp only [A8]; omega)) ?_
    refine B2 rfl rfl (g8 0 rfl (A0 rfl) rfl C6 (AU8 hmx (by rw [show ((k : Int).toNat + (j : Int).toNat) = k + j by omega]))) ?_
    refine B2 rfl rfl (B8 rfl (A0 rfl)) ?_
    refine B2 rfl rfl (B8 rfl (A0 rfl)) ?_
    refine B2 rfl rfl (R7 rfl (A0 rfl) B4 (by first | omega | (simp only [C8, A7, szR] at *; omega))) ?_
    refine B2 rfl rfl (AL2 0 rfl I4 B5 (A0 rfl) rfl (A0 rfl) (by omega) (by simp only [A8]; omega)) ?_
    refine B2 rfl rfl (g8 0 rfl (A0 rfl) rfl C6 (AU8 hmy (by rw [show ((k : Int).toNat + ((j : Int) - 1).toNat) = k + j - 1 by omega]))) ?_
    refine B2 rfl rfl (Z7 rfl (A0 rfl) (A0 rfl)) ?_
    refine P7 ?_
    refine B9 (A0 rfl) ?_ ?_
    ·intro h44
     have k44 := l0 h44; try simp only [A8] at k44
     refine A3 (A2 ?_)
     refine A5 rfl ?_
     refine A5 rfl ?_
     refine A5 rfl ?_
     refine A5 rfl ?_
     refine A1 rfl (AL2 0 rfl I4 B5 (A0 rfl) rfl (A0 rfl) (by omega) (by simp only [A8]; omega)) ?_
     refine A1 rfl (g8 0 rfl (A0 rfl) rfl C6 (AU8 hmx (by rw [show ((k : Int).toNat + (j : Int).toNat) = k + j by omega]))) ?_
     refine A1 rfl (U7 0 rfl I4 B5 (A0 rfl) rfl (A0 rfl) (by omega) (by simp only [A8]; omega)) ?_
     refine AB3 0 rfl rfl rfl (A0 rfl) (A0 rfl) (L8 _ _) rfl B5 rfl (by simp only [A8, Int.toNat_natCast]; omega) ?_
     refine A4 (A2 ?_)
     refine A5 rfl ?_
     refine A1 rfl (G0 rfl (A0 rfl) B4 (by first | omega | (simp only [C8, A7, szR] at *; omega))) ?_
     refine B3 rfl ?_
     refine A4 (A2 ?_)
     refine A5 rfl ?_
     refine A1 rfl (G0 rfl (A0 rfl) B4 (by first | omega | (simp only [C8, A7, szR] at *; omega))) ?_
     refine B3 rfl ?_
     refine A4 ?_
     refine Z0 i j m (i + 1) (j + 1) (m.set i x1) ?_ ?_ (O8 (by first | exact congrArg (fun z => [Own.arr v 3 1 z]) (List.map_set).symm | rfl) ⟨rfl, rfl, rfl, rfl, rfl, rfl, rfl, rfl, rfl, rfl, rfl, rfl, rfl, rfl, rfl, rfl, rfl, rfl, rfl, rfl, rfl, trivial⟩)
     ·exact As9 hinv (by omega) hx1 hy1 (by simpa using h44)
     omega
    intro h44
    have k44 := X7 h44; try simp only [A8] at k44
    refine C3 (A2 ?_)
    refine A5 rfl ?_
    refine A1 rfl (G0 rfl (A0 rfl) B4 (by first | omega | (simp only [C8, A7, szR] at *; omega))) ?_
    refine B3 rfl ?_
    refine A4 ?_
    refine Z0 i j m (i) (j + 1) (m) ?_ ?_ (O8 (by first | exact congrArg (fun z => [Own.arr v 3 1 z]) (List.map_set).symm | rfl) ⟨rfl, rfl, rfl, rfl, rfl, rfl, rfl, rfl, rfl, rfl, rfl, rfl, rfl, rfl, rfl, rfl, rfl, rfl, rfl, rfl, rfl, trivial⟩)
    ·exact At0 hinv (by omega) hx1 hy1 (by simpa using h44)
    omega
   intro h32
   have k32 := of_decide_eq_false h32; try simp only [A8] at k32
   have hm := hinv.2.2.2.1
   have hge : k + j = l.length := by omega
   refine G1 ?_
   refine A3 (A2 ?_)
   refine A5 rfl ?_
   refine A5 rfl ?_
   refine A1 rfl (AW3 0 rfl I4 B5 (A0 rfl) rfl (A0 rfl) (by first | omega | (simp only [C8, A7, szR] at *; omega)) (by first | omega | (simp only [C8, A7, szR] at *; omega))) ?_
   refine Ak2 0 rfl rfl rfl I4 Tryz.zeroValue3 rfl rfl (by decide) (A0 rfl) rfl (by simp only [A8, Int.toNat_natCast]; omega) ?_
   refine A4 (A3 (A2 ?_))
   refine A5 rfl ?_
   refine A5 rfl ?_
   refine As3 0 rfl rfl rfl rfl I4 B5 (A0 rfl) rfl (A0 rfl) (by omega) (by simp only [A8, J6, D9, List.length_replicate]; omega) ?_
   intro v59_1
   refine B3 rfl ?_
   refine A4 ?_
   refine C2 ?_
   exact L5 [0] v59_1 (trivial) rfl (by first | exact congrArg (fun z => [Own.arr _ 3 1 (List.map (fun s => [AV.int s]) z)]) hall | (refine congrArg (fun z => [Own.arr _ 3 1 z]) ?_; exact (AE1 hinv.2.2.2.2.1 hge (by omega)).symm)) (P0 rfl (C1 rfl (by first | rfl | (refine congrArg AV.bool ?_; simp_all; done))))
  intro h25
  have k25 := M6 h25; try simp only [A8] at k25
  refine C3 (A2 ?_)
  refine A5 rfl ?_
  refine A1 rfl (G0 rfl (A0 rfl) B4 (by first | omega | (simp only [C8, A7, szR] at *; omega))) ?_
  refine B3 rfl ?_
  refine A4 ?_
  refine K4 k (k + 1) ?_ ?_ (K2 ⟨rfl, rfl, trivial⟩)
  ·exact ⟨⟨by omega, by omega⟩, fun i h1 h2 => if e : i = k then (by subst e; rw [hx, hy]; intro e; injection e with e; subst e; simp at h25) else hinv.2 i h1 (by omega)⟩
  omega
 intro h13
 have k13 := of_decide_eq_false h13; try simp only [A8] at k13
 have hall : cmpL l = l := by (unfold cmpL; rw [o8 (Nat.le_refl _) (fun i h1 h2 => hinv.2 i h1 (by omega)), List.take_length])
 refine G1 ?_
 refine A3 (A2 ?_)
 refine A5 rfl ?_
 refine B3 rfl ?_
 refine A4 ?_
 refine C2 ?_
 exact L5 [0] v (trivial) rfl (by first | exact congrArg (fun z => [Own.arr _ 3 1 (List.map (fun s => [AV.int s]) z)]) hall | (refine congrArg (fun z => [Own.arr _ 3 1 z]) ?_; exact (AE1 hinv.2.2.2.2.1 hge (by omega)).symm)) (P0 rfl (C1 rfl (by first | rfl | (refine congrArg AV.bool ?_; simp_all; done))))
theorem BI6 (l : List Int) (n : Int) (hl : l.length ≤ 4194303) : FSpec Tryz.prog 106 [ints l, AV.int n] (ints (putIb l n)) := by
 refine E2 Tryz.func106 rfl Tryz.ntmps106 rfl ?_
 refine A3 (A2 ?_)
 refine A1 rfl (B6 rfl (a8 (sz := 1))) ?_
 refine A4 (A3 (A2 ?_))
 refine A1 rfl (B6 rfl B4) ?_
 refine A4 (A3 (C7 ?_))
 refine J0 [(0, _), (1, _), (4, _)] _ (fun (i : Nat) => i ≤ l.length ∧ ∀ j x, j < i → l[j]? = some x → x < n) (fun (i : Nat) => []) (fun (i : Nat) => [(5, AV.int i)]) (fun (i : Nat) => l.length - i) (0) ?_ (K2 ⟨rfl, rfl, rfl, rfl, trivial⟩) ?_
 ·exact ⟨Nat.zero_le _, fun j x h => by omega⟩
 intro i hinv
 obtain ⟨x, hx⟩ := y6 l i
 have hx0 : i < l.length → l[i]? = some x := hx
 refine A3 (A3 (A2 ?_))
 refine A5 rfl ?_
 refine A5 rfl ?_
 refine A1 rfl (F6 rfl I4 (A0 rfl)) ?_
 refine A1 rfl (J8 rfl (A0 rfl) (A0 rfl)) ?_
 refine A5 rfl ?_
 refine D3 rfl (fun hc => B8 rfl (A0 rfl)) ?_
 refine D3 rfl (fun hc => B8 rfl (A0 rfl)) ?_
 refine D3 rfl (fun hc => I2 rfl I4 B5 (A9 rfl hc) (A9 rfl hc) (hx (by first | omega | ((try simp only [C8, A7, szR] at *); omega) | (have hc2 := hc; simp only [Q0, beq_iff_eq, bne_iff_ne, A8, D9] at hc2; omega))) (by first | omega | ((try simp only [C8, A7, szR] at *); omega) | (have hc2 := hc; simp only [Q0, beq_iff_eq, bne_iff_ne, A8, D9] at hc2; omega))) ?_
 refine D3 rfl (fun hc => L6 rfl (A9 rfl hc) C6 rfl) ?_
 refine D3 rfl (fun hc => B8 rfl (A0 rfl)) ?_
 refine D3 rfl (fun hc => J8 rfl (A9 rfl hc) (A9 rfl hc)) ?_
 refine A1 rfl (J5 rfl (A0 rfl) (F7 rfl)) ?_
 refine A4 ?_
 refine B9 (A0 rfl) ?_ ?_
 ·intro h18
  have hb : i < l.length ∧ x < n := by simpa using h18
  refine C3 (C7 (A2 ?_))
  refine A5 rfl ?_
  refine A1 rfl (G0 rfl (A0 rfl) B4 (by first | omega | (simp only [C8, A7, szR] at *; omega))) ?_
  refine B3 rfl ?_
  refine A4 ?_
  refine m3 ?_
  refine K4 i (i + 1) ?_ ?_ (K2 ⟨rfl, rfl, rfl, rfl, trivial⟩)
  ·exact ⟨by omega, fun j y hj hy => (Nat.lt_or_ge j i).elim (fun h => hinv.2 j y h hy) (fun h => by (obtain rfl : j = i := by omega); rw [hx0 hb.1] at hy; injection hy with hy; omega)⟩
  omega
 intro h18
 have hb : i < l.length → ¬ x < n := fun h => by simpa [h] using h18
 obtain ⟨hs1, hs2⟩ := Af3 hinv.2 hinv.1 (fun z hz => by (have hzl := (List.getElem?_eq_some_iff.1 hz).1; rw [hx0 hzl] at hz; injection hz with hz; subst hz; exact hb hzl))
 refine G1 ?_
 refine A3 (A3 (A2 ?_))
 refine A5 rfl ?_
 refine A5 rfl ?_
 refine A1 rfl (F6 rfl I4 (A0 rfl)) ?_
 refine A1 rfl (J8 rfl (A0 rfl) (A0 rfl)) ?_
 refine A5 rfl ?_
 refine D3 rfl (fun hc => B8 rfl (A0 rfl)) ?_
 refine D3 rfl (fun hc => B8 rfl (A0 rfl)) ?_
 refine D3 rfl (fun hc => I2 rfl I4 B5 (A9 rfl hc) (A9 rfl hc) (hx (by first | omega | ((try simp only [C8, A7, szR] at *); omega) | (have hc2 := hc; simp only [Q0, beq_iff_eq, bne_iff_ne, A8, D9] at hc2; omega))) (by first | omega | ((try simp only [C8, A7, szR] at *); omega) | (have hc2 := hc; simp only [Q0, beq_iff_eq, bne_iff_ne, A8, D9] at hc2; omega))) ?_
 refine D3 rfl (fun hc => L6 rfl (A9 rfl hc) C6 rfl) ?_
 refine D3 rfl (fun hc => B8 rfl (A0 rfl)) ?_
 refine D3 rfl (fun hc => O1 rfl (A9 rfl hc) (A9 rfl hc)) ?_
 refine A1 rfl (J5 rfl (A0 rfl) (F7 rfl)) ?_
 refine A4 ?_
 refine B9 (A0 rfl) ?_ ?_
 ·intro h32
  have hc : i < l.length ∧ x = n := by simpa using h32
  have he := hs1 x (hx0 hc.1) hc.2
  rw [he]
  refine A3 (A2 ?_)
  refine A5 rfl ?_
  refine B3 rfl ?_
  refine A4 ?_
  refine C2 ?_
  exact I3 rfl (C1 rfl (by first | rfl | exact congrArg (fun z => AV.list 1 z) (by rw [List.nil_append, List.map_append, List.map_cons, List.append_assoc]; rfl)))
 intro h32
 have hc : i < l.length → x ≠ n := fun h => by simpa [h] using h32
 have he := hs2 (fun z hz => by (have hzl := (List.getElem?_eq_some_iff.1 hz).1; rw [hx0 hzl] at hz; injection hz with hz; subst hz; exact hc hzl))
 rw [he]
 refine C3 (A3 (A2 ?_))
 refine U6 rfl rfl rfl rfl I4 B5 ?_
 intro v34
 refine A5 rfl ?_
 refine A5 rfl ?_
 refine A1 rfl (m8 rfl I4 B5 (A0 rfl) (A0 rfl) (by first | omega | (simp only [C8, A7, szR] at *; omega)) (by first | omega | (simp only [C8, A7, szR] at *; omega))) ?_
 refine L2 (by' := 8) 0 rfl rfl rfl rfl I4 Tryz.type3 rfl rfl rfl rfl rfl rfl (A0 rfl) (A0 rfl) rfl (by simp only [A8, D9, N4]; omega) ?_
 intro v38_1
 refine B3 rfl ?_
 refine A4 (A3 (A2 ?_))
 refine A5 rfl ?_
 refine A5 rfl ?_
 refine A1 rfl (K9 rfl I4 B5 Tryz.zeroValue3 rfl rfl rfl rfl (D0 (A0 rfl) (L8 _ _) G9) rfl rfl) ?_
 refine L2 (by' := 8) 0 rfl rfl rfl rfl I4 Tryz.type3 rfl rfl rfl rfl rfl rfl (A0 rfl) (A0 rfl) rfl (by simp only [A7, J6, N4, A8, D9, I5, List.length_drop]; omega) ?_
 intro v42_2
 refine B3 rfl ?_
 refine A4 (A3 (A2 ?_))
 refine A5 rfl ?_
 refine A5 rfl ?_
 refine A5 rfl ?_
 refine A1 rfl (AB5 rfl I4 B5 (A0 rfl) (A0 rfl) (by first | omega | (simp only [C8, A7, szR] at *; omega)) (by first | omega | (simp only [C8, A7, szR] at *; omega))) ?_
 refine L2 (by' := 8) 0 rfl rfl rfl rfl I4 Tryz.type3 rfl rfl rfl rfl rfl rfl (A0 rfl) (A0 rfl) rfl (by simp only [A7, J6, N4, A8, D9, I5, List.length_drop]; omega) ?_
 intro v47_3
 refine B3 rfl ?_
 refine A4 ?_
 refine C2 ?_
 refine AM6 0 4 rfl rfl ?_
 exact I3 rfl (C1 rfl (by first | rfl | exact congrArg (fun z => AV.list 1 z) (by rw [List.nil_append, List.map_append, List.map_cons, List.append_assoc]; rfl)))
theorem AU9 (o : TOrder) (hs : o.size ≤ 1048576) : FSpec Tryz.prog 35 [AV.agg o.cs] (AV.bool (orderR o)) := by
 rw [BN3]
 refine E2 Tryz.func35 rfl Tryz.ntmps35 rfl ?_
 refine A3 (A2 ?_)
 refine N1 rfl rfl rfl rfl (A0 rfl) ?_
 intro b1
 refine A1 rfl (B6 rfl E9) ?_
 refine A4 (A3 (A2 ?_))
 refine A1 rfl (B1 0 rfl H1 rfl B5 (A0 rfl) rfl) ?_
 refine A1 rfl (B0 0 rfl (A0 rfl) rfl C6 rfl) ?_
 refine A1 rfl (D7 rfl Tryz.call69 rfl (r6 _) (A6 (A0 rfl) C0)) ?_
 refine A5 rfl ?_
 refine D3 rfl (fun hc => B1 1 rfl H1 rfl H5 (A0 rfl) rfl) ?_
 refine D3 rfl (fun hc => B0 0 rfl (A9 rfl hc) rfl K7 rfl) ?_
 refine D3 rfl (fun hc => B1 2 rfl H1 rfl L0 (A0 rfl) rfl) ?_
 refine D3 rfl (fun hc => B0 0 rfl (A9 rfl hc) rfl M3 rfl) ?_
 refine D3 rfl (fun hc => D7 rfl Tryz.call70 rfl (Ap5 o.Reads o.Writes hs) (A6 (A9 rfl hc) (A6 (A9 rfl hc) C0))) ?_
 refine A1 rfl (J5 rfl (A0 rfl) (F7 rfl)) ?_
 refine B3 rfl ?_
 refine A4 ?_
 refine C2 ?_
 exact I3 rfl (C1 rfl (by rfl))
theorem AQ5 (o : TOrder) (hs : o.size ≤ 1048576) : FSpec Tryz.prog 37 [AV.agg o.cs] (AV.bool (orderR o)) := by
 unfold orderR
 rw [AD2]
 refine E2 Tryz.func37 rfl Tryz.ntmps37 rfl ?_
 refine A3 (A2 ?_)
 refine N1 rfl rfl rfl rfl (A0 rfl) ?_
 intro b1
 refine A1 rfl (B6 rfl E9) ?_
 refine A4 (A3 (A2 ?_))
 refine A1 rfl (B1 0 rfl H1 rfl B5 (A0 rfl) rfl) ?_
 refine A1 rfl (B0 0 rfl (A0 rfl) rfl C6 rfl) ?_
 refine A1 rfl (B1 1 rfl H1 rfl H5 (A0 rfl) rfl) ?_
 refine A1 rfl (B0 0 rfl (A0 rfl) rfl K7 rfl) ?_
 refine A1 rfl (B1 2 rfl H1 rfl L0 (A0 rfl) rfl) ?_
 refine A1 rfl (B0 0 rfl (A0 rfl) rfl M3 rfl) ?_
 refine A1 rfl (N5 (places := #[(0, 1), (1, 1), (2, 1), (3, 1), (4, 1), (5, 1), (6, 1)]) rfl B7 Tryz.zeroValue104 (fun w => by kernel_rfl) rfl (D0 B4 (L8 _ _) (D0 (A0 rfl) (L8 _ _) (D0 B4 (L8 _ _) (D0 (A0 rfl) (O9 _ _) (D0 (A0 rfl) (O9 _ _) G9))))) rfl) ?_
 refine A1 rfl (D7 rfl Tryz.call73 rfl (AI8 ⟨1, o.Txn, 1, 0, o.Reads, o.Writes, false⟩ hs) (A6 (A0 rfl) C0)) ?_
 refine B3 rfl ?_
 refine A4 ?_
 refine C2 ?_
 exact I3 rfl (C1 rfl (by rfl))
end Go.Proofs.YtoaoicnnimjbeaaGreat

namespace Go.M
open Go.AV
def keysO (o : TOrder) : List Str := keysI (o.Reads ++ wKeys o.Writes)
def partsR (l : List Str) (o : TOrder) : List Int × Bool := if (l15Cuts l && orderR o) = true then (partsL l (keysO o), true) else ([], false)
theorem BA2 {l ks : List Str} {i : Nat} {k : Str} (h : ks[i]? = some k) : partsL l (ks.take (i + 1)) = putIb (partsL l (ks.take i)) (partW l k) := by
  unfold partsL
  rw [List.take_add_one, h, List.foldl_append]; rfl
theorem AP1 (l : List Str) : ∀ (ks : List Str), (partsL l ks).length ≤ ks.length := by
  have key : ∀ (ks : List Str) (a : List Int), (ks.foldl (fun a k => putIb a (partW l k)) a).length ≤ a.length + ks.length := by
    intro ks
    induction ks with
    | nil => intro a; exact Nat.le_refl _
    | cons k ks ih =>
      intro a
      have h1 := ih (putIb a (partW l k))
      have h2 := BN4 a (partW l k)
      rw [List.foldl_cons, I5]; omega
  intro ks
  have := key ks []
  unfold partsL; simpa using this
theorem AP2 (w : List TWrite) : (wKeys w).length = w.length := by unfold wKeys; rw [A8]
theorem AH3 {o : TOrder} (hs : o.size ≤ 300000) : o.Reads.length ≤ 300000 ∧ sizeL TWrite.size o.Writes ≤ 300000 ∧ o.Writes.length ≤ 300000 ∧ sizeL (fun x : Str => x.length) o.Reads ≤ 300000 := by
  have h0 : o.size = sizeL (fun x : Str => x.length) o.Reads + sizeL TWrite.size o.Writes := rfl
  have h1 := O4 (f := fun x : Str => x.length) (l := o.Reads)
  have h2 := O4 (f := TWrite.size) (l := o.Writes)
  omega
theorem An0 {o : TOrder} (hs : o.size ≤ 300000) : (keysO o).length ≤ 600000 := by
  have h1 := AG7 (o.Reads ++ wKeys o.Writes)
  obtain ⟨a, _, c, _⟩ := AH3 hs
  rw [J6, AP2] at h1
  unfold keysO; omega
end Go.M
namespace Go.Proofs.YtoaoicnnimjbeaaGreat
open Go Go.AV Go.M
attribute [local irreducible] OpW OpA OpS AWP FSpec ESpec GSpec OpE RetOk RetOkG RvDen Le Ev GuardIs SrcIs SrcE
theorem BA3 (r : List Str) (w : List TWrite) (hr : r.length ≤ 1000000) (hw : sizeL TWrite.size w ≤ 1048576) : FSpec Tryz.prog 71 [strs r, AV.list 3 (w.map TWrite.cs)] (strs (keysI (r ++ wKeys w))) :=
  Q5 (BH2 r w hr hw) fun v _ => M8 (List.mem_singleton.2 rfl) I7
theorem Ap6 (r : List Str) (w : List TWrite) (hr : r.length ≤ 400000) (hw : w.length ≤ 400000) : FSpec Tryz.prog 75 [strs r, AV.list 3 (w.map TWrite.cs)] (strs (keysI (r ++ wKeys w))) := by
  rw [Ak9]
  exact Q5 (Av7 r w hr hw) fun v _ => M8 (List.mem_singleton.2 rfl) I7
theorem Ap7 (l ks : List Str) (hk : ks.length ≤ 1000000) : FSpec Tryz.prog 74 [strs l, strs ks] (ints (partsL l ks)) := by
 refine E2 Tryz.func74 rfl Tryz.ntmps74 rfl ?_
 refine A3 (A2 ?_)
 refine A1 rfl (B6 rfl (a8 (sz := 1))) ?_
 refine A4 (A3 (A2 ?_))
 refine A1 rfl (B6 rfl (a8 (sz := 1))) ?_
 refine A4 (A3 (A3 (A2 ?_)))
 refine A5 rfl ?_
 refine A1 rfl (F6 rfl C9 (A0 rfl)) ?_
 refine A1 rfl (B8 rfl B4) ?_
 refine A4 (C7 ?_)
 refine J0 [(0, _), (4, _), (8, _), (9, _)] _ (fun (i : Nat) => i ≤ ks.length) (fun (i : Nat) => []) (fun (i : Nat) => [(5, ints (partsL l (ks.take i))), (10, AV.int i)]) (fun (i : Nat) => ks.length - i) (0) ?_ (K2 ⟨rfl, rfl, rfl, rfl, rfl, rfl, trivial⟩) ?_
 ·exact Nat.zero_le _
 intro i hinv
 refine A3 (A2 ?_)
 refine A1 rfl (J8 rfl (A0 rfl) (A0 rfl)) ?_
 refine A4 (A3 ?_)
 refine B9 (A0 rfl) ?_ ?_
 ·intro h11
  have k11 := of_decide_eq_true h11; try simp only [A8] at k11
  have hlt : i < ks.length := by omega
  obtain ⟨x, hx⟩ := get_some hlt
  have hle := AP1 l (ks.take i)
  rw [D9] at hle
  refine C3 (A3 (C7 (A3 (A2 ?_))))
  refine A1 rfl (I2 rfl C9 E3 (A0 rfl) (A0 rfl) hx (by first | omega | (simp only [C8, A7, szR] at *; omega))) ?_
  refine A1 rfl (L6 rfl (A0 rfl) G3 rfl) ?_
  refine B3 rfl ?_
  refine A4 (A2 ?_)
  refine A5 rfl ?_
  refine A5 rfl ?_
  refine A5 rfl ?_
  refine A1 rfl (D7 rfl Tryz.call31 rfl (w4 _ _) (A6 (A0 rfl) (A6 (A0 rfl) C0))) ?_
  refine A1 rfl (D7 rfl Tryz.call106 rfl (BI6 _ _ (by omega)) (A6 (A0 rfl) (A6 (A0 rfl) C0))) ?_
  refine B3 rfl ?_
  refine A4 (A2 ?_)
  refine A1 rfl (G0 rfl (A0 rfl) B4 (by first | omega | (simp only [C8, A7, szR] at *; omega))) ?_
  refine A5 rfl ?_
  refine A4 ?_
  refine K4 i (i + 1) ?_ ?_ (K2 ⟨(congrArg (fun z => some (ints z)) (BA2 hx).symm), rfl, rfl, rfl, rfl, rfl, trivial⟩)
  ·exact (by omega)
  omega
 intro h11
 have k11 := of_decide_eq_false h11; try simp only [A8] at k11
 have hge : ks.length ≤ i := by omega
 rw [List.take_of_length_le hge]
 refine G1 ?_
 refine A3 (A2 ?_)
 refine A5 rfl ?_
 refine B3 rfl ?_
 refine A4 ?_
 refine C2 ?_
 exact I3 rfl (C1 rfl (by rfl))
theorem AP3 (l : List Str) (o : TOrder) (hs : o.size ≤ 300000) : FSpec Tryz.prog 38 [strs l, AV.agg o.cs] (ints (partsL l (keysO o))) := by
 obtain ⟨h1, h2, h3, h4⟩ := AH3 hs
 have h5 := An0 hs
 refine E2 Tryz.func38 rfl Tryz.ntmps38 rfl ?_
 refine A3 (A2 ?_)
 refine N1 rfl rfl rfl rfl (A0 rfl) ?_
 intro b3
 refine A1 rfl (B6 rfl (a8 (sz := 1))) ?_
 refine A4 (A3 (A2 ?_))
 refine A5 rfl ?_
 refine A1 rfl (B1 1 rfl H1 rfl H5 (A0 rfl) rfl) ?_
 refine A1 rfl (B0 0 rfl (A0 rfl) rfl K7 rfl) ?_
 refine A1 rfl (B1 2 rfl H1 rfl L0 (A0 rfl) rfl) ?_
 refine A1 rfl (B0 0 rfl (A0 rfl) rfl M3 rfl) ?_
 refine A1 rfl (D7 rfl Tryz.call75 rfl (Ap6 o.Reads o.Writes (by omega) (by omega)) (A6 (A0 rfl) (A6 (A0 rfl) C0))) ?_
 refine A1 rfl (D7 rfl Tryz.call74 rfl (Ap7 l (keysO o) (by omega)) (A6 (A0 rfl) (A6 (A0 rfl) C0))) ?_
 refine B3 rfl ?_
 refine A4 ?_
 refine C2 ?_
 exact I3 rfl (C1 rfl (by rfl))
theorem Ap8 (l : List Str) (o : TOrder) (hl : ∀ k ∈ l, k.length ≤ 4611686018427387904) (hs : o.size ≤ 300000) : FSpec Tryz.prog 12 [strs l, AV.agg o.cs] (AV.tup [ints (partsR l o).1, AV.bool (partsR l o).2]) := by
 refine E2 Tryz.func12 rfl Tryz.ntmps12 rfl ?_
 refine A3 (A2 ?_)
 refine N1 rfl rfl rfl rfl (A0 rfl) ?_
 intro b3
 refine A1 rfl (B6 rfl (a8 (sz := 1))) ?_
 refine A1 rfl (B6 rfl E9) ?_
 refine A4 (A3 (A3 (A2 ?_)))
 refine A5 rfl ?_
 refine A1 rfl (D7 rfl Tryz.call29 rfl (p4 l hl) (A6 (A0 rfl) C0)) ?_
 refine A1 rfl (M2 rfl (A0 rfl)) ?_
 refine A5 rfl ?_
 refine F3 rfl (fun hc => F1 0 rfl (A0 rfl) rfl Q4 H4 rfl) ?_
 refine F3 rfl (fun hc => D7 rfl Tryz.call37 rfl (AQ5 o (by omega)) (A6 (A9 rfl hc) C0)) ?_
 refine F3 rfl (fun hc => M2 rfl (A9 rfl hc)) ?_
 refine A1 rfl (Q8 rfl (A0 rfl) (F7 rfl)) ?_
 refine A4 ?_
 refine B9 (A0 rfl) ?_ ?_
 ·intro h13
  have he : partsR l o = ([], false) := by (unfold partsR; rw [if_neg (by cases h1 : l15Cuts l <;> simp_all)])
  rw [he]
  refine A3 (A2 ?_)
  refine A1 rfl (B6 rfl (a8 (sz := 1))) ?_
  refine A1 rfl (B6 rfl E9) ?_
  refine A4 ?_
  refine C2 ?_
  exact X8 rfl (by decide) (E7 (C1 rfl (by rfl)) (E7 (C1 rfl (by rfl)) M0))
 intro h13
 have hg : l15Cuts l = true ∧ orderR o = true := by (cases h1 : l15Cuts l <;> cases h2 : orderR o <;> simp_all)
 have he : partsR l o = (partsL l (keysO o), true) := by (unfold partsR; rw [if_pos (by rw [hg.1, hg.2]; rfl)])
 rw [he]
 refine C3 (A3 (A2 ?_))
 refine A5 rfl ?_
 refine A1 rfl (F1 0 rfl (A0 rfl) rfl Q4 H4 rfl) ?_
 refine A1 rfl (D7 rfl Tryz.call38 rfl (AP3 l o hs) (A6 (A0 rfl) (A6 (A0 rfl) C0))) ?_
 refine B3 rfl ?_
 refine A1 rfl (B6 rfl E9) ?_
 refine A4 ?_
 refine C2 ?_
 exact X8 rfl (by decide) (E7 (C1 rfl (by rfl)) (E7 (C1 rfl (by rfl)) M0))
theorem BA4 (l : List Str) (r : List Str) (w : List TWrite) (hr : r.length ≤ 300000) (hw : sizeL TWrite.size w ≤ 300000) : GSpec Tryz.prog 36 [strs l, strs r, AV.list 3 (w.map TWrite.cs)] [] (fun _ : Value => True) (fun v => [.arr v 3 1 ((cmpL ((keysI (r ++ wKeys w)).map fun k => (partN l k : Int))).map fun n => [AV.int n])]) (fun v => AV.is v) := by
 have hkl := AG7 (r ++ wKeys w)
 have hwl := O4 (f := TWrite.size) (l := w)
 rw [J6, AP2] at hkl
 refine H3 Tryz.func36 rfl Tryz.ntmps36 rfl ?_
 refine A3 (A2 ?_)
 refine A1 rfl (B6 rfl L4) ?_
 refine A4 (A3 (A2 ?_))
 refine U6 rfl rfl rfl rfl I4 B5 ?_
 intro v10
 refine B3 rfl ?_
 refine A4 (A3 (A3 (A2 ?_)))
 refine A5 rfl ?_
 refine A5 rfl ?_
 refine A1 rfl (D7 rfl Tryz.call71 rfl (BA3 r w (by omega) (by omega)) (A6 (A0 rfl) (A6 (A0 rfl) C0))) ?_
 refine A1 rfl (F6 rfl C9 (A0 rfl)) ?_
 refine A1 rfl (B8 rfl B4) ?_
 refine A4 (C7 ?_)
 refine AWP.le (F8 [0] rfl) ?_
 refine P3 [(0, _), (6, _), (13, _), (14, _)] _ (fun (i : Nat) (v : Value) => i ≤ (keysI (r ++ wKeys w)).length) (fun (i : Nat) (v : Value) => [.arr v 3 1 ((((keysI (r ++ wKeys w)).take i).map fun k => (partN l k : Int)).map fun n => [AV.int n])]) (fun (i : Nat) (v : Value) => [(7, AV.is v), (15, AV.int i)]) (fun (i : Nat) (v : Value) => (keysI (r ++ wKeys w)).length - i) (0) (v10) ?_ (O8 (by rfl) ⟨rfl, rfl, rfl, rfl, rfl, rfl, trivial⟩) ?_
 ·exact Nat.zero_le _
 intro i v hinv
 refine A3 (A2 ?_)
 refine A1 rfl (J8 rfl (A0 rfl) (A0 rfl)) ?_
 refine A4 (A3 ?_)
 refine B9 (A0 rfl) ?_ ?_
 ·intro h16
  have k16 := of_decide_eq_true h16; try simp only [A8] at k16
  have hlt : i < (keysI (r ++ wKeys w)).length := by omega
  obtain ⟨x, hx⟩ := get_some hlt
  refine C3 (A3 (C7 (A3 (A2 ?_))))
  refine A1 rfl (I2 rfl C9 E3 (A0 rfl) (A0 rfl) hx (by first | omega | (simp only [C8, A7, szR] at *; omega))) ?_
  refine A1 rfl (L6 rfl (A0 rfl) G3 rfl) ?_
  refine B3 rfl ?_
  refine A4 (A2 ?_)
  refine A5 rfl ?_
  refine A5 rfl ?_
  refine A5 rfl ?_
  refine A1 rfl (D7 rfl Tryz.call28 rfl (AZ1 _ _) (A6 (A0 rfl) (A6 (A0 rfl) C0))) ?_
  refine A1 rfl (K9 rfl I4 B5 Tryz.zeroValue3 rfl rfl rfl rfl (D0 (A0 rfl) (L8 _ _) G9) rfl rfl) ?_
  refine L2 (by' := 8) 0 rfl rfl rfl rfl I4 Tryz.type3 rfl rfl rfl rfl rfl rfl (A0 rfl) (A0 rfl) rfl (by first | omega | (simp only [C8, A7, szR] at *; omega)) ?_
  intro v24_1
  refine B3 rfl ?_
  refine A4 (A2 ?_)
  refine A1 rfl (G0 rfl (A0 rfl) B4 (by first | omega | (simp only [C8, A7, szR] at *; omega))) ?_
  refine A5 rfl ?_
  refine A4 ?_
  refine O2 i v (i + 1) (v24_1) ?_ ?_ (Le.trans (F8 [0] rfl) (O8 (by first | rfl | (rw [List.take_add_one, hx, List.map_append, List.map_append]; rfl)) ⟨rfl, rfl, rfl, rfl, rfl, rfl, trivial⟩))
  ·exact (by omega)
  omega
 intro h16
 have k16 := of_decide_eq_false h16; try simp only [A8] at k16
 have hge : (keysI (r ++ wKeys w)).length ≤ i := by omega
 rw [List.take_of_length_le hge]
 refine G1 ?_
 refine A3 (A2 ?_)
 refine A5 rfl ?_
 refine H9 [0] rfl rfl rfl rfl Tryz.call72 rfl (Ai3 v _ (by rw [A8]; omega)) (A6 (A0 rfl) C0) rfl ?_
 intro x27 ok27
 refine B3 rfl ?_
 refine A4 ?_
 refine C2 ?_
 exact L5 [0] x27 (trivial) rfl (by rfl) (P0 rfl (C1 rfl (by rfl)))
end Go.Proofs.YtoaoicnnimjbeaaGreat

namespace Go.Proofs.YtoaoicnnimjbeaaGreat
open Go Go.AV Go.M
attribute [local irreducible] OpW OpA OpS AWP FSpec ESpec GSpec OpE RetOk RetOkG RvDen Le Ev GuardIs SrcIs Int.tmod IntKind.wrap bandI
theorem BI7 (b : Nat) (code : List Int) (hcode : ByteL code) (c : TCur) (hp : c.p ≤ 6000000) : GSpec Tryz.prog 141 [AV.ptr b 0] [.box b 64 (curC code c)] (fun x : TCur × Str => x.1.p ≤ c.p + 2 ∧ x.2.length ≤ 64) (fun x => [.box b 64 (curC code x.1)]) (fun x => AV.str x.2) := by
 refine H3 Tryz.func141 rfl Tryz.ntmps141 rfl ?_
 refine A3 (A2 ?_)
 refine A1 rfl (B6 rfl (N0 (l := []) rfl)) ?_
 refine A4 (A3 (A2 ?_))
 refine A5 rfl ?_
 refine A1 rfl (K9 rfl C9 E3 Tryz.zeroValue9 rfl rfl rfl rfl (D0 (N0 (l := []) rfl) (L7 _) (D0 (N0 (l := [49]) rfl) (L7 _) (D0 (N0 (l := [55]) rfl) (L7 _) (D0 (N0 (l := [49, 48]) rfl) (L7 _) (D0 (N0 (l := [45, 51]) rfl) (L7 _) (D0 (N0 (l := [120]) rfl) (L7 _) (D0 (N0 (l := [97, 44, 98, 95, 99]) rfl) (L7 _) G9))))))) rfl rfl) ?_
 refine H9 [0] rfl rfl rfl rfl Tryz.call26 rfl (AT8 _ _ hcode _ ([[], [49], [55], [49, 48], [45, 51], [120], [97, 44, 98, 95, 99]] : List Str) (by decide) (by omega)) (A6 (A0 rfl) (A6 (A0 rfl) C0)) rfl ?_
 intro x5 ok5
 refine B3 rfl ?_
 refine A4 ?_
 refine C2 ?_
 (refine L5 [0] ((_, _)) ?_ rfl (by first | (dsimp only; rfl) | rfl) (P0 rfl (C1 rfl (by rfl))); exact ok5)
theorem Av8 (b : Nat) (code : List Int) (hcode : ByteL code) (c : TCur) (key : Str) (hp : c.p ≤ 5000000) : GSpec Tryz.prog 99 [AV.ptr b 0, AV.str key] [.box b 64 (curC code c)] (fun x : TCur × TWrite => x.1.p ≤ c.p + 4 ∧ x.2.Key = key ∧ x.2.Val.length ≤ 64) (fun x => [.box b 64 (curC code x.1)]) (fun x => AV.agg x.2.cs) := by
 refine H3 Tryz.func99 rfl Tryz.ntmps99 rfl ?_
 refine A3 (A2 ?_)
 refine F5 rfl rfl rfl rfl Tryz.zeroValue79 rfl ?_
 intro b4
 refine A4 (A3 (A3 (A2 ?_)))
 refine A5 rfl ?_
 refine H9 [1] rfl rfl rfl rfl Tryz.call49 rfl (n6 _ _ hcode _ _ (by omega) (by omega)) (A6 (A0 rfl) (A6 B4 C0)) rfl ?_
 intro x6 ok6
 refine A4 ?_
 refine B9 (A0 rfl) ?_ ?_
 ·intro h6
  refine A3 (A2 ?_)
  refine A5 rfl ?_
  refine A1 rfl (N5 (places := #[(0, 1), (1, 1), (2, 1)]) rfl J3 Tryz.zeroValue79 (fun w => by kernel_rfl) rfl (D0 (A0 rfl) (L7 _) (D0 E9 (f6 _) G9)) rfl) ?_
  refine D2 1 rfl rfl rfl (A0 rfl) (A0 rfl) (D6 _) rfl E5 rfl ?_
  refine A4 ?_
  refine C2 ?_
  (refine L5 [0] ((_, ⟨_, _, _⟩)) ?_ rfl (by first | (dsimp only; rfl) | rfl) (P0 rfl (J9 (ys := _) 1 rfl rfl P8 E5 rfl)); (dsimp only; first | exact ⟨by omega, rfl, by simp⟩ | exact ⟨by omega, rfl, ok11.2⟩))
 intro h6
 refine C3 (A3 (A2 ?_))
 refine A5 rfl ?_
 refine A5 rfl ?_
 refine H9 [0] rfl rfl rfl rfl Tryz.call141 rfl (BI7 _ _ hcode _ (by omega)) (A6 (A0 rfl) C0) rfl ?_
 intro x11 ok11
 refine A1 rfl (N5 (places := #[(0, 1), (1, 1), (2, 1)]) rfl J3 Tryz.zeroValue79 (fun w => by kernel_rfl) rfl (D0 (A0 rfl) (L7 _) (D0 (A0 rfl) (L7 _) G9)) rfl) ?_
 refine D2 1 rfl rfl rfl (A0 rfl) (A0 rfl) (D6 _) rfl E5 rfl ?_
 refine A4 ?_
 refine C2 ?_
 (refine L5 [0] ((_, ⟨_, _, _⟩)) ?_ rfl (by first | (dsimp only; rfl) | rfl) (P0 rfl (J9 (ys := _) 1 rfl rfl P8 E5 rfl)); (dsimp only; first | exact ⟨by omega, rfl, by simp⟩ | exact ⟨by omega, rfl, ok11.2⟩))
def keysD : List Str := [[97], [98], [99], [105, 47, 120, 47, 49], [109], [110], [114, 47, 49], [122]]
theorem BN5 {s : Str} {i : Nat} (h : keysD[i]? = some s) : s.length ≤ 5 := by
  have : ∀ s ∈ keysD, s.length ≤ 5 := by decide
  exact this s (F9 h)
theorem Ap9 (b : Nat) (code : List Int) (hcode : ByteL code) (c : TCur) (hp : c.p ≤ 3000000) : GSpec Tryz.prog 65 [AV.ptr b 0] [.box b 64 (curC code c)] (fun x : TCur × List TWrite × Value => x.1.p ≤ c.p + 48 ∧ sizeL TWrite.size x.2.1 ≤ 560) (fun x => [.box b 64 (curC code x.1), .arr x.2.2 79 3 (x.2.1.map TWrite.cs)]) (fun x => AV.is x.2.2) := by
 refine H3 Tryz.func65 rfl Tryz.ntmps65 rfl ?_
 refine A3 (A2 ?_)
 refine A1 rfl (B6 rfl L4) ?_
 refine A4 (A3 (A2 ?_))
 refine S0 79 3 rfl rfl rfl rfl L4 ?_
 intro v3
 refine A4 (A3 (A3 (A2 ?_)))
 refine A1 rfl (K9 rfl C9 E3 Tryz.zeroValue9 rfl rfl rfl rfl (D0 (N0 (l := [97]) rfl) (L7 _) (D0 (N0 (l := [98]) rfl) (L7 _) (D0 (N0 (l := [99]) rfl) (L7 _) (D0 (N0 (l := [105, 47, 120, 47, 49]) rfl) (L7 _) (D0 (N0 (l := [109]) rfl) (L7 _) (D0 (N0 (l := [110]) rfl) (L7 _) (D0 (N0 (l := [114, 47, 49]) rfl) (L7 _) (D0 (N0 (l := [122]) rfl) (L7 _) G9)))))))) rfl rfl) ?_
 refine A1 rfl (F6 rfl C9 (A0 rfl)) ?_
 refine A1 rfl (B8 rfl B4) ?_
 refine A4 (C7 ?_)
 refine AWP.le (F8 [1, 0] rfl) ?_
 refine d8 [(0, _), (2, _), (6, _), (7, _)] _ (fun (i : Nat) (cc : TCur) (l : List TWrite) (v : Value) => i ≤ 8 ∧ cc.p ≤ c.p + 6 * i ∧ sizeL TWrite.size l ≤ 70 * i) (fun (i : Nat) (cc : TCur) (l : List TWrite) (v : Value) => [.box b 64 (curC code cc), .arr v 79 3 (l.map TWrite.cs)]) (fun (i : Nat) (cc : TCur) (l : List TWrite) (v : Value) => [(3, AV.is v), (8, AV.int i)]) (fun (i : Nat) (cc : TCur) (l : List TWrite) (v : Value) => 8 - i) (0) (c) ([]) (v3) ?_ (O8 (by rfl) ⟨rfl, rfl, rfl, rfl, rfl, rfl, trivial⟩) ?_
 ·exact ⟨by omega, by omega, by simp [sizeL]⟩
 intro i cc l v hinv
 refine A3 (A2 ?_)
 refine A1 rfl (J8 rfl (A0 rfl) (A0 rfl)) ?_
 refine A4 (A3 ?_)
 refine B9 (A0 rfl) ?_ ?_
 ·intro h9
  have k9 := of_decide_eq_true h9; try simp only [A8] at k9
  have hlt : i < 8 := by simp only [A7] at k9; omega
  obtain ⟨y, hy⟩ := get_some (show i < keysD.length from hlt)
  have hyl := BN5 hy
  have hyy : (keysD.map fun s => [AV.str s])[i]? = some [AV.str y] := by rw [List.getElem?_map, hy]; rfl
  have hll : l.length ≤ 560 := by have := O4 (f := TWrite.size) (l := l); omega
  refine C3 (A3 (C7 (A3 (A2 ?_))))
  refine A1 rfl (n4 rfl C9 E3 (A0 rfl) (A0 rfl) (by omega) (by rw [Int.toNat_natCast]; exact hyy)) ?_
  refine A1 rfl (L6 rfl (A0 rfl) G3 rfl) ?_
  refine B3 rfl ?_
  refine A4 (A3 (A2 ?_))
  refine A5 rfl ?_
  refine H9 [0] rfl rfl rfl rfl Tryz.call49 rfl (n6 _ _ hcode _ _ (by omega) (by omega)) (A6 (A0 rfl) (A6 B4 C0)) rfl ?_
  intro x13 ok13
  refine A4 ?_
  refine B9 (A0 rfl) ?_ ?_
  ·intro h13
   refine A2 ?_
   refine A5 rfl ?_
   refine A5 rfl ?_
   refine A5 rfl ?_
   refine H9 [0] rfl rfl rfl rfl Tryz.call99 rfl (Av8 _ _ hcode _ _ (by omega)) (A6 (A0 rfl) (A6 (A0 rfl) C0)) rfl ?_
   intro x17 ok17
   refine A1 rfl (K9 rfl D1 E5 Tryz.zeroValue79 rfl rfl rfl rfl (D0 (A0 rfl) (D6 _) G9) rfl rfl) ?_
   refine L2 (by' := 40) 1 rfl rfl rfl rfl D1 Tryz.type79 rfl rfl rfl rfl rfl rfl (A0 rfl) (A0 rfl) rfl (by first | omega | (simp only [C8, A7, szR] at *; omega)) ?_
   intro v19_1
   refine B3 rfl ?_
   refine A4 (A2 ?_)
   refine A1 rfl (G0 rfl (A0 rfl) B4 (by first | omega | (simp only [C8, A7, szR] at *; omega))) ?_
   refine A5 rfl ?_
   refine A4 ?_
   refine V9 i cc l v (i + 1) (x17.1) (l ++ [x17.2]) (v19_1) ?_ ?_ (Le.trans (F8 [0, 0] rfl) (O8 (by first | rfl | (rw [List.map_append]; rfl)) ⟨rfl, rfl, rfl, rfl, rfl, rfl, trivial⟩))
   ·exact ⟨by omega, by omega, by (have h9 : x17.2.size ≤ 69 := by unfold TWrite.size; rw [ok17.2.1]; omega); rw [show sizeL TWrite.size (l ++ [x17.2]) = sizeL TWrite.size l + x17.2.size + 1 from by unfold sizeL; simp; omega]; omega⟩
   omega
  intro h13
  refine C3 (A2 ?_)
  refine A1 rfl (G0 rfl (A0 rfl) B4 (by first | omega | (simp only [C8, A7, szR] at *; omega))) ?_
  refine A5 rfl ?_
  refine A4 ?_
  refine V9 i cc l v (i + 1) (x13.1) (l) (v) ?_ ?_ (Le.trans (F8 [0, 0] rfl) (O8 (by first | rfl | (rw [List.map_append]; rfl)) ⟨rfl, rfl, rfl, rfl, rfl, rfl, trivial⟩))
  ·exact ⟨by omega, by omega, by omega⟩
  omega
 intro h9
 have k9 := of_decide_eq_false h9; try simp only [A8] at k9
 refine G1 ?_
 refine A3 (A2 ?_)
 refine A5 rfl ?_
 refine B3 rfl ?_
 refine A4 ?_
 refine C2 ?_
 (refine L5 [0, 0] ((cc, l, v)) ?_ rfl (by first | (dsimp only; rfl) | rfl) (P0 rfl (C1 rfl (by rfl))); exact ⟨show cc.p ≤ _ by omega, show sizeL TWrite.size l ≤ _ by omega⟩)
end Go.Proofs.YtoaoicnnimjbeaaGreat

namespace Go.M
open Go.AV
def cutsD : List (List Str) := [[[109]], [[109]], [[99], [110]], [], [[98]]]
theorem f4 {l : List Str} (h : l ∈ cutsD) : (∀ k ∈ l, k.length ≤ 1) ∧ l.length ≤ 2 := by
  unfold cutsD at h
  simp only [List.mem_cons, List.not_mem_nil, or_false] at h
  rcases h with rfl | rfl | rfl | rfl | rfl <;> simp
end Go.M
namespace Go.Proofs.YtoaoicnnimjbeaaGreat
open Go Go.AV Go.M
attribute [local irreducible] OpW OpA OpS AWP FSpec ESpec GSpec OpE RetOk RetOkG RvDen Le Ev GuardIs SrcIs SrcE Int.tmod IntKind.wrap bandI
theorem Av9 (l : List Str) (o : TOrder) (hl : ∀ k ∈ l, k.length ≤ 4611686018427387904) (hs : o.size ≤ 300000) : GSpec Tryz.prog 11 [strs l, AV.agg o.cs] [] (fun _ : Value => True) (fun v => [.arr v 3 1 ((partsR l o).1.map fun n => [AV.int n])]) (fun v => AV.tup [AV.is v, AV.bool (partsR l o).2]) := by
 obtain ⟨h1, h2, h3, h4⟩ := AH3 hs
 refine H3 Tryz.func11 rfl Tryz.ntmps11 rfl ?_
 refine A3 (A2 ?_)
 refine N1 rfl rfl rfl rfl (A0 rfl) ?_
 intro b3
 refine A1 rfl (B6 rfl L4) ?_
 refine A1 rfl (B6 rfl E9) ?_
 refine A4 (A3 (A3 (A2 ?_)))
 refine A5 rfl ?_
 refine A1 rfl (D7 rfl Tryz.call8 rfl (s3 l hl) (A6 (A0 rfl) C0)) ?_
 refine A1 rfl (M2 rfl (A0 rfl)) ?_
 refine A5 rfl ?_
 refine F3 rfl (fun hc => F1 0 rfl (A0 rfl) rfl Q4 H4 rfl) ?_
 refine F3 rfl (fun hc => D7 rfl Tryz.call35 rfl (AU9 o (by omega)) (A6 (A9 rfl hc) C0)) ?_
 refine F3 rfl (fun hc => M2 rfl (A9 rfl hc)) ?_
 refine A1 rfl (Q8 rfl (A0 rfl) (F7 rfl)) ?_
 refine A4 ?_
 refine B9 (A0 rfl) ?_ ?_
 ·intro h13
  have he : partsR l o = ([], false) := by (unfold partsR; rw [if_neg (by cases h1 : l15Cuts l <;> simp_all)])
  rw [he]
  refine A3 (A2 ?_)
  refine A1 rfl (B6 rfl L4) ?_
  refine A1 rfl (B6 rfl E9) ?_
  refine A4 ?_
  refine C2 ?_
  refine Y4 3 1 ?_
  exact L5 [0] (Value.slice none 0 0) (trivial) rfl (by rfl) (V5 rfl (by decide) (E7 (C1 rfl (by rfl)) (E7 (C1 rfl (by rfl)) M0)))
 intro h13
 have hg : l15Cuts l = true ∧ orderR o = true := by (cases h1 : l15Cuts l <;> cases h2 : orderR o <;> simp_all)
 have he : partsR l o = (cmpL ((keysI (o.Reads ++ wKeys o.Writes)).map fun k => (partN l k : Int)), true) := by (unfold partsR; rw [if_pos (by rw [hg.1, hg.2]; rfl), BI5 (Am7 hg.1) (AS4 _)]; rfl)
 rw [he]
 refine C3 (A3 (A2 ?_))
 refine A5 rfl ?_
 refine A1 rfl (B1 1 rfl H1 rfl H5 (A0 rfl) rfl) ?_
 refine A1 rfl (B0 0 rfl (A0 rfl) rfl K7 rfl) ?_
 refine A1 rfl (B1 2 rfl H1 rfl L0 (A0 rfl) rfl) ?_
 refine A1 rfl (B0 0 rfl (A0 rfl) rfl M3 rfl) ?_
 refine H9 [] rfl rfl rfl rfl Tryz.call36 rfl (BA4 l o.Reads o.Writes h1 h2) (A6 (A0 rfl) (A6 (A0 rfl) (A6 (A0 rfl) C0))) rfl ?_
 intro x19 ok19
 refine B3 rfl ?_
 refine A1 rfl (B6 rfl E9) ?_
 refine A4 ?_
 refine C2 ?_
 exact L5 [0] x19 (trivial) rfl (by rfl) (V5 rfl (by decide) (E7 (C1 rfl (by rfl)) (E7 (C1 rfl (by rfl)) M0)))
theorem Aq0 (l : List Str) (o : TOrder) (hl : ∀ k ∈ l, k.length ≤ 4611686018427387904) (hs : o.size ≤ 300000) : FSpec Tryz.prog 11 [strs l, AV.agg o.cs] (AV.tup [ints (partsR l o).1, AV.bool (partsR l o).2]) :=
  Q5 (Av9 l o hl hs) fun v _ => AJ7 (G4 (M8 (List.mem_singleton.2 rfl) I7) (G4 M4 U3))
theorem i7 (b : Nat) (code : List Int) (hcode : ByteL code) (c : TCur) (hp : c.p ≤ 800000) : GSpec Tryz.prog 25 [AV.ptr b 0] [.box b 64 (curC code c)] (fun x : TCur × List Str => x.1.p ≤ c.p + 2 ∧ x.2 ∈ cutsD) (fun x => [.box b 64 (curC code x.1)]) (fun x => strs x.2) := by
 refine H3 Tryz.func25 rfl Tryz.ntmps25 rfl ?_
 refine A3 (A2 ?_)
 refine A1 rfl (B6 rfl L4) ?_
 refine A4 (A3 (A2 ?_))
 refine A1 rfl (K9 rfl C9 E3 Tryz.zeroValue9 rfl rfl rfl rfl (D0 (N0 (l := [109]) rfl) (L7 _) G9) rfl rfl) ?_
 refine A1 rfl (K9 rfl C9 E3 Tryz.zeroValue9 rfl rfl rfl rfl (D0 (N0 (l := [109]) rfl) (L7 _) G9) rfl rfl) ?_
 refine A1 rfl (K9 rfl C9 E3 Tryz.zeroValue9 rfl rfl rfl rfl (D0 (N0 (l := [99]) rfl) (L7 _) (D0 (N0 (l := [110]) rfl) (L7 _) G9)) rfl rfl) ?_
 refine A1 rfl (K9 rfl C9 E3 Tryz.zeroValue9 rfl rfl rfl rfl G9 rfl rfl) ?_
 refine A1 rfl (K9 rfl C9 E3 Tryz.zeroValue9 rfl rfl rfl rfl (D0 (N0 (l := [98]) rfl) (L7 _) G9) rfl rfl) ?_
 refine A1 rfl (K9 rfl Tryz.underlying92 H5 Tryz.zeroValue24 rfl rfl rfl rfl (D0 (A0 rfl) (O9 _ _) (D0 (A0 rfl) (O9 _ _) (D0 (A0 rfl) (O9 _ _) (D0 (A0 rfl) (O9 _ _) (D0 (A0 rfl) (O9 _ _) G9))))) rfl rfl) ?_
 refine A5 rfl ?_
 refine H9 [0] rfl rfl rfl rfl Tryz.call34 rfl (R4 _ _ hcode _ _ (by omega) (by omega)) (A6 (A0 rfl) (A6 B4 C0)) rfl ?_
 intro x10 ok10
 have hix : x10.2.toNat < cutsD.length := by (show x10.2.toNat < 5; omega)
 obtain ⟨z, hz⟩ := get_some hix
 have hzm := F9 hz
 have hrow : (cutsD.map fun l => [strs l])[x10.2.toNat]? = some [strs z] := by (rw [List.getElem?_map, hz]; rfl)
 refine A1 rfl (n4 rfl Tryz.underlying92 H5 (A0 rfl) (A0 rfl) (by omega) hrow) ?_
 refine A1 rfl (L6 rfl (A0 rfl) K7 rfl) ?_
 refine B3 rfl ?_
 refine A4 ?_
 refine C2 ?_
 (refine L5 [0] ((x10.1, z)) ?_ rfl (by first | (dsimp only; rfl) | rfl) (P0 rfl (C1 rfl (by rfl))); exact ⟨(show x10.1.p ≤ c.p + 2 by omega), hzm⟩)
theorem Ai4 (code : List Int) (hcode : ByteL code) : GSpec Tryz.prog 5 [bytesI code] [] (fun x : List Str × Str => x.1 ∈ cutsD ∧ x.2.length ≤ 64) (fun x => []) (fun x => AV.tup [strs x.1, AV.str x.2]) := by
 refine H3 Tryz.func5 rfl Tryz.ntmps5 rfl ?_
 refine A3 (A2 ?_)
 refine A1 rfl (B6 rfl L4) ?_
 refine A1 rfl (B6 rfl (N0 (l := []) rfl)) ?_
 refine A4 (A3 (A2 ?_))
 refine A5 rfl ?_
 refine A1 rfl (N5 (places := #[(0, 1), (1, 1), (2, 1)]) rfl P1 Tryz.zeroValue64 (fun w => by kernel_rfl) rfl (D0 (A0 rfl) (O9 _ _) G9) rfl) ?_
 refine N1 rfl rfl rfl rfl (A0 rfl) ?_
 intro b7
 refine B3 rfl ?_
 refine A4 (A3 (A2 ?_))
 refine A5 rfl ?_
 refine H9 [0] rfl rfl rfl rfl Tryz.call25 rfl (i7 _ _ hcode ⟨0, 0⟩ (by decide)) (A6 (A0 rfl) C0) rfl ?_
 intro x9 ok9
 have hp9 : x9.1.p ≤ 2 := by (have h9 := ok9.1; dsimp only at h9; omega)
 refine A5 rfl ?_
 refine A1 rfl (K9 rfl C9 E3 Tryz.zeroValue9 rfl rfl rfl rfl (D0 (N0 (l := [97]) rfl) (L7 _) (D0 (N0 (l := [98]) rfl) (L7 _) (D0 (N0 (l := [99]) rfl) (L7 _) (D0 (N0 (l := [109]) rfl) (L7 _) (D0 (N0 (l := [110]) rfl) (L7 _) (D0 (N0 (l := [122]) rfl) (L7 _) (D0 (N0 (l := []) rfl) (L7 _) (D0 (N0 (l := [65]) rfl) (L7 _) G9)))))))) rfl rfl) ?_
 refine H9 [0] rfl rfl rfl rfl Tryz.call26 rfl (AT8 _ _ hcode _ ([[97], [98], [99], [109], [110], [122], [], [65]] : List Str) (by decide) (by omega)) (A6 (A0 rfl) (A6 (A0 rfl) C0)) rfl ?_
 intro x12 ok12
 refine B3 rfl ?_
 refine B3 rfl ?_
 refine A4 ?_
 refine C2 ?_
 (refine L5 [] ((x9.2, x12.2)) ?_ rfl (by first | (dsimp only; rfl) | rfl) (V5 rfl (by decide) (E7 (C1 rfl (by rfl)) (E7 (C1 rfl (by rfl)) M0))); exact ⟨ok9.2, ok12.2⟩)
end Go.Proofs.YtoaoicnnimjbeaaGreat

set_option maxHeartbeats 2000000
namespace Go.M
open Go.AV
theorem AH4 (s : Str) : ∀ l : List Str, sizeL (fun x : Str => x.length) (putS l s) ≤ sizeL (fun x : Str => x.length) l + s.length + 1
  | [] => by unfold putS sizeL; simp; omega
  | y :: l => by
    have ih := AH4 s l
    have hc : ∀ (z : Str) (q : List Str), sizeL (fun x : Str => x.length) (z :: q) = sizeL (fun x : Str => x.length) q + z.length + 1 := fun z q => by unfold sizeL; simp; omega
    unfold putS
    split
    · rw [hc s]; omega
    · split
      · omega
      · rw [hc, hc]; omega
end Go.M
namespace Go.Proofs.YtoaoicnnimjbeaaGreat
open Go Go.AV Go.M
attribute [local irreducible] OpW OpA OpS AWP FSpec ESpec GSpec OpE RetOk RetOkG RvDen Le Ev GuardIs SrcIs Int.tmod Int.tdiv IntKind.wrap bandI
theorem AJ1 (a b : Int) : FSpec Tryz.prog 188 [AV.int a, AV.int b] (AV.int (if b < a then a else b)) := by
 refine E2 Tryz.func188 rfl Tryz.ntmps188 rfl ?_
 refine A3 (A2 ?_)
 refine A1 rfl (B6 rfl B4) ?_
 refine A4 (A3 (A3 (A2 ?_)))
 refine A5 rfl ?_
 refine A5 rfl ?_
 refine A1 rfl (R8 rfl (A0 rfl) (A0 rfl)) ?_
 refine A4 ?_
 refine B9 (A0 rfl) ?_ ?_
 ·intro h7
  have k7 := of_decide_eq_true h7; try simp only [A8] at k7
  rw [if_pos (of_decide_eq_true h7)]
  refine A3 (A2 ?_)
  refine A5 rfl ?_
  refine B3 rfl ?_
  refine A4 ?_
  refine C2 ?_
  exact I3 rfl (C1 rfl (by rfl))
 intro h7
 have k7 := of_decide_eq_false h7; try simp only [A8] at k7
 rw [if_neg (of_decide_eq_false h7)]
 refine C3 (A3 (A2 ?_))
 refine A5 rfl ?_
 refine B3 rfl ?_
 refine A4 ?_
 refine C2 ?_
 exact I3 rfl (C1 rfl (by rfl))
theorem BI8 (b : Nat) (code : List Int) (hcode : ByteL code) (c : TCur) (hp : c.p ≤ 2000000) : GSpec Tryz.prog 190 [AV.ptr b 0] [.box b 64 (curC code c)] (fun x : TCur × TRec × Value × Value => x.1.p ≤ c.p + 100 ∧ x.2.1.size ≤ 1000 ∧ 0 ≤ x.2.1.Lead ∧ x.2.1.Lead ≤ 3 ∧ 0 ≤ x.2.1.Time ∧ x.2.1.Time ≤ 100001) (fun x => .box b 64 (curC code x.1) :: TRec.ow x.2.1 x.2.2) (fun x => AV.agg (TRec.ocs x.2.1 x.2.2)) := by
 refine H3 Tryz.func190 rfl Tryz.ntmps190 rfl ?_
 refine A3 (A2 ?_)
 refine F5 rfl rfl rfl rfl Tryz.zeroValue104 rfl ?_
 intro b2
 refine A4 (A3 (A2 ?_))
 refine A5 rfl ?_
 refine H9 [1] rfl rfl rfl rfl Tryz.call34 rfl (R4 _ _ hcode _ _ (by omega) (by omega)) (A6 (A0 rfl) (A6 B4 C0)) rfl ?_
 intro x6 ok6
 refine A1 rfl (G0 rfl B4 (A0 rfl) (by first | omega | (simp only [C8, A7, szR] at *; omega))) ?_
 refine A5 rfl ?_
 refine H9 [0] rfl rfl rfl rfl Tryz.call34 rfl (R4 _ _ hcode _ _ (by omega) (by omega)) (A6 (A0 rfl) (A6 B4 C0)) rfl ?_
 intro x9 ok9
 refine A1 rfl (G0 rfl B4 (A0 rfl) (by first | omega | (simp only [C8, A7, szR] at *; omega))) ?_
 refine A5 rfl ?_
 refine H9 [0] rfl rfl rfl rfl Tryz.call34 rfl (R4 _ _ hcode _ _ (by omega) (by omega)) (A6 (A0 rfl) (A6 B4 C0)) rfl ?_
 intro x12 ok12
 refine A1 rfl (G0 rfl B4 (A0 rfl) (by first | omega | (simp only [C8, A7, szR] at *; omega))) ?_
 refine A1 rfl (N5 (places := #[(0, 1), (1, 1), (2, 1), (3, 1), (4, 1), (5, 1), (6, 1)]) rfl B7 Tryz.zeroValue104 (fun w => by kernel_rfl) rfl (D0 (A0 rfl) (L8 _ _) (D0 (A0 rfl) (L8 _ _) (D0 (A0 rfl) (L8 _ _) G9))) rfl) ?_
 refine F5 rfl rfl rfl rfl Tryz.zeroValue104 rfl ?_
 intro b3
 refine D2 0 rfl rfl rfl (A0 rfl) (A0 rfl) (D6 _) rfl H8 rfl ?_
 refine A4 (A3 (A3 (A2 ?_)))
 refine A1 rfl (B1 0 rfl B7 rfl B5 (A0 rfl) rfl) ?_
 refine A1 rfl (B0 0 rfl (A0 rfl) rfl C6 rfl) ?_
 refine A4 (C7 (A3 (A2 ?_)))
 refine A1 rfl (O1 rfl (A0 rfl) B4) ?_
 refine B3 rfl ?_
 refine A4 ?_
 refine B9 (A0 rfl) ?_ ?_
 ·intro h24
  have k24 := M7 h24; try simp only [A8] at k24
  refine A3 (A2 ?_)
  refine A5 rfl ?_
  refine H9 [1] rfl rfl rfl rfl Tryz.call34 rfl (R4 _ _ hcode _ _ (by omega) (by omega)) (A6 (A0 rfl) (A6 B4 C0)) rfl ?_
  intro x27 ok27
  refine A1 rfl (B1 3 rfl B7 rfl B5 (A0 rfl) rfl) ?_
  refine K8 1 rfl rfl rfl (A0 rfl) (A0 rfl) (L8 _ _) rfl B5 rfl ?_
  refine A4 (A3 (A3 (A2 ?_)))
  refine A5 rfl ?_
  refine H9 [0] rfl rfl rfl rfl Tryz.call34 rfl (R4 _ _ hcode _ _ (by omega) (by omega)) (A6 (A0 rfl) (A6 B4 C0)) rfl ?_
  intro x30 ok30
  refine B3 rfl ?_
  refine A4 (C7 ?_)
  refine W5 9 1 ?_
  refine AWP.le (F8 [2, 1, 0] rfl) ?_
  refine d8 [(0, _), (2, _), (3, _)] _ (fun (n : Int) (cc : TCur) (l : List Str) (v : Value) => (0 ≤ n ∧ n + l.length ≤ 3) ∧ cc.p + 4 * n ≤ c.p + 22 ∧ SrtS l ∧ sizeL (fun x : Str => x.length) l + 70 * n ≤ 210) (fun (n : Int) (cc : TCur) (l : List Str) (v : Value) => [.box b3 104 [AV.int (1 + x6.2), AV.int (1 + x9.2), AV.int (1 + x12.2), AV.int x27.2, AV.is v, AV.nils, AV.bool false], .box b 64 (curC code cc), .arr v 9 1 (l.map fun t => [AV.str t])]) (fun (n : Int) (cc : TCur) (l : List Str) (v : Value) => [(4, AV.int n)]) (fun (n : Int) (cc : TCur) (l : List Str) (v : Value) => n.toNat) (x30.2) (x30.1) ([]) ((Value.slice none 0 0)) ?_ (O8 (by rfl) ⟨rfl, rfl, rfl, rfl, trivial⟩) ?_
  ·exact ⟨⟨by omega, by simp; omega⟩, by omega, List.Pairwise.nil, by simp [sizeL]; omega⟩
  intro n cc l v hinv
  refine A3 (A3 (A2 ?_))
  refine A5 rfl ?_
  refine A1 rfl (R8 rfl (A0 rfl) B4) ?_
  refine A4 ?_
  refine B9 (A0 rfl) ?_ ?_
  ·intro h32
   have k32 := of_decide_eq_true h32; try simp only [A8] at k32
   refine C3 (A3 (C7 ?_))
   refine V3 _ [(0, false), (1, false), (2, false), (3, true), (4, true)] (by kernel_rfl) (by kernel_rfl) rfl (V2 1) ?_
   refine H7 rfl rfl rfl (fun ext => B1 4 rfl B7 rfl H5 (A0 rfl) rfl) ?_
   refine H7 rfl rfl rfl (fun ext => B0 0 rfl (A0 rfl) rfl K7 rfl) ?_
   refine H7 rfl rfl rfl (fun ext => B8 rfl (A0 rfl)) ?_
   refine V4 rfl rfl rfl (Y0 [1] rfl Tryz.call67 rfl (BH1 _ _ hcode _ (by omega)) (A6 (A0 rfl) C0) rfl) (fun a _ => (by first | exact E1 rfl | exact E1 (List.append_assoc _ _ _) | exact H6)) ?_
   intro x38 ok38
   refine V4 rfl rfl rfl (Y0 [1] rfl Tryz.call66 rfl (n7 v l x38.2 hinv.2.2.1 (by omega)) (A6 (A0 rfl) (A6 (A0 rfl) C0)) rfl) (fun a _ => (by first | exact E1 rfl | exact E1 (List.append_assoc _ _ _) | exact H6)) ?_
   intro x39 ok39
   refine l4 ?_
   refine A1 rfl (B1 4 rfl B7 rfl H5 (A0 rfl) rfl) ?_
   refine T8 3 rfl fun one_x39 => ?_
   refine K8 0 rfl rfl rfl (A0 rfl) (A0 rfl) (U2 one_x39) rfl H5 rfl ?_
   refine A4 (A2 ?_)
   refine A5 rfl ?_
   refine A1 rfl (R7 rfl (A0 rfl) B4 (by first | omega | (simp only [C8, A7, szR] at *; omega))) ?_
   refine B3 rfl ?_
   refine A4 ?_
   refine V9 n cc l v (n - 1) (x38.1) (putS l x38.2) (x39) ?_ ?_ (Le.trans (F8 [0, 1, 1] rfl) (O8 (by rfl) ⟨rfl, rfl, rfl, rfl, trivial⟩))
   ·(have h9 := AF1 x38.2 l; have h8 := AH4 x38.2 l; exact ⟨⟨by omega, by omega⟩, by omega, (s9 hinv.2.2.1).1, by omega⟩)
   omega
  intro h32
  have k32 := of_decide_eq_false h32; try simp only [A8] at k32
  refine G1 ?_
  refine A3 (A2 ?_)
  refine A5 rfl ?_
  refine H9 [1] rfl rfl rfl rfl Tryz.call65 rfl (Ap9 _ _ hcode _ (by omega)) (A6 (A0 rfl) C0) rfl ?_
  intro x42 ok42
  refine A1 rfl (B1 5 rfl B7 rfl L0 (A0 rfl) rfl) ?_
  refine T8 1 rfl fun one_x42_2_2 => ?_
  refine K8 2 rfl rfl rfl (A0 rfl) (A0 rfl) (U2 one_x42_2_2) rfl L0 rfl ?_
  refine A4 (A3 (A2 ?_))
  refine A1 rfl (B1 4 rfl B7 rfl H5 (A0 rfl) rfl) ?_
  refine A1 rfl (B0 2 rfl (A0 rfl) rfl K7 rfl) ?_
  refine A1 rfl (W4 3 rfl C9 (A0 rfl) rfl) ?_
  refine A1 rfl (B1 5 rfl B7 rfl L0 (A0 rfl) rfl) ?_
  refine A1 rfl (B0 2 rfl (A0 rfl) rfl M3 rfl) ?_
  refine A1 rfl (W4 1 rfl D1 (A0 rfl) rfl) ?_
  refine A1 rfl (G0 rfl (A0 rfl) (A0 rfl) (by simp only [A8]; have h9 := O4 (f := TWrite.size) (l := x42.2.1); omega)) ?_
  refine A1 rfl (O1 rfl (A0 rfl) B4) ?_
  refine A4 ?_
  refine B9 (A0 rfl) ?_ ?_
  ·intro h51
   have k51 := M7 h51; try simp only [A8] at k51
   refine A2 ?_
   refine AD1 rfl rfl rfl rfl C9 E3 Tryz.zeroValue9 rfl rfl rfl rfl (D0 (N0 (l := [97]) rfl) (L7 _) G9) rfl rfl ?_
   intro v52
   refine A1 rfl (B1 4 rfl B7 rfl H5 (A0 rfl) rfl) ?_
   refine T8 0 rfl fun one_v52 => ?_
   refine K8 3 rfl rfl rfl (A0 rfl) (A0 rfl) (U2 one_v52) rfl H5 rfl ?_
   refine A4 (A3 (A2 ?_))
   refine A1 rfl (F1 3 rfl (A0 rfl) rfl O6 H8 rfl) ?_
   refine D2 5 rfl rfl rfl (A0 rfl) (A0 rfl) (D6 _) rfl H8 rfl ?_
   refine A4 ?_
   refine C2 ?_
   (refine L5 [1, 0, 0] ((x42.1, ⟨1 + x6.2, 1 + x9.2, 1 + x12.2, x27.2, [[97]], x42.2.1, false⟩, v52, x42.2.2)) ?_ rfl (by first | (dsimp only; rfl) | rfl) (P0 rfl (J9 (ys := _) 5 rfl rfl O6 H8 rfl)); (dsimp only [TRec.size]; exact ⟨by omega, by first | (simp [sizeL]; done) | (simp only [sizeL, I5, N4, List.map_cons, List.map_nil, List.sum_cons, List.sum_nil] at *; omega) | omega, by omega, by omega, by omega, by omega⟩))
  intro h51
  have k51 := M6 h51; try simp only [A8] at k51
  refine C3 (A3 (A2 ?_))
  refine A1 rfl (F1 2 rfl (A0 rfl) rfl O6 H8 rfl) ?_
  refine D2 4 rfl rfl rfl (A0 rfl) (A0 rfl) (D6 _) rfl H8 rfl ?_
  refine A4 ?_
  refine C2 ?_
  (refine L5 [0, 2, 0] ((x42.1, ⟨1 + x6.2, 1 + x9.2, 1 + x12.2, x27.2, l, x42.2.1, false⟩, v, x42.2.2)) ?_ rfl (by first | (dsimp only; rfl) | rfl) (P0 rfl (J9 (ys := _) 4 rfl rfl O6 H8 rfl)); (dsimp only [TRec.size]; exact ⟨by omega, by first | (simp [sizeL]; done) | (simp only [sizeL, I5, N4, List.map_cons, List.map_nil, List.sum_cons, List.sum_nil] at *; omega) | omega, by omega, by omega, by omega, by omega⟩))
 intro h24
 have k24 := M6 h24; try simp only [A8] at k24
 refine A3 (A2 ?_)
 refine A1 rfl (O1 rfl (A0 rfl) B4) ?_
 refine B3 rfl ?_
 refine A4 ?_
 refine B9 (A0 rfl) ?_ ?_
 ·intro h54
  have k54 := M7 h54; try simp only [A8] at k54
  refine A2 ?_
  refine A1 rfl (B1 1 rfl B7 rfl B5 (A0 rfl) rfl) ?_
  refine K8 0 rfl rfl rfl (A0 rfl) B4 (L8 _ _) rfl B5 rfl ?_
  refine A4 (A3 (A2 ?_))
  refine A1 rfl (F1 0 rfl (A0 rfl) rfl O6 H8 rfl) ?_
  refine D2 2 rfl rfl rfl (A0 rfl) (A0 rfl) (D6 _) rfl H8 rfl ?_
  refine A4 ?_
  refine C2 ?_
  refine Y4 9 1 ?_
  refine Y4 79 3 ?_
  (refine L5 [3, 1, 0] ((x12.1, ⟨1 + x6.2, 0, 1 + x12.2, 0, [], [], false⟩, Value.slice none 0 0, Value.slice none 0 0)) ?_ rfl (by first | (dsimp only; rfl) | rfl) (P0 rfl (J9 (ys := _) 4 rfl rfl O6 H8 rfl)); (dsimp only [TRec.size]; exact ⟨by omega, by first | (simp [sizeL]; done) | (simp only [sizeL, I5, N4, List.map_cons, List.map_nil, List.sum_cons, List.sum_nil] at *; omega) | omega, by omega, by omega, by omega, by omega⟩))
 intro h54
 have k54 := M6 h54; try simp only [A8] at k54
 refine A3 (A2 ?_)
 refine A5 rfl ?_
 refine H9 [1] rfl rfl rfl rfl Tryz.call49 rfl (n6 _ _ hcode _ _ (by omega) (by omega)) (A6 (A0 rfl) (A6 B4 C0)) rfl ?_
 intro x18 ok18
 refine A1 rfl (B1 6 rfl B7 rfl N2 (A0 rfl) rfl) ?_
 refine K8 1 rfl rfl rfl (A0 rfl) (A0 rfl) (f6 _) rfl N2 rfl ?_
 refine A4 (A3 (A2 ?_))
 refine A1 rfl (B1 6 rfl B7 rfl N2 (A0 rfl) rfl) ?_
 refine A1 rfl (B0 1 rfl (A0 rfl) rfl O5 rfl) ?_
 refine A1 rfl (M2 rfl (A0 rfl)) ?_
 refine A4 ?_
 refine B9 (A0 rfl) ?_ ?_
 ·intro h22
  refine A2 ?_
  refine A1 rfl (B1 2 rfl B7 rfl B5 (A0 rfl) rfl) ?_
  refine K8 1 rfl rfl rfl (A0 rfl) B4 (L8 _ _) rfl B5 rfl ?_
  refine A4 (A3 (A2 ?_))
  refine A1 rfl (F1 1 rfl (A0 rfl) rfl O6 H8 rfl) ?_
  refine D2 2 rfl rfl rfl (A0 rfl) (A0 rfl) (D6 _) rfl H8 rfl ?_
  refine A4 ?_
  refine C2 ?_
  refine Y4 9 1 ?_
  refine Y4 79 3 ?_
  (refine L5 [2, 1, 0] ((x18.1, ⟨1 + x6.2, 1 + x9.2, 0, 0, [], [], x18.2⟩, Value.slice none 0 0, Value.slice none 0 0)) ?_ rfl (by first | (dsimp only; rfl) | rfl) (P0 rfl (J9 (ys := _) 4 rfl rfl O6 H8 rfl)); (dsimp only [TRec.size]; exact ⟨by omega, by first | (simp [sizeL]; done) | (simp only [sizeL, I5, N4, List.map_cons, List.map_nil, List.sum_cons, List.sum_nil] at *; omega) | omega, by omega, by omega, by omega, by omega⟩))
 intro h22
 refine C3 (A3 (A2 ?_))
 refine A1 rfl (F1 1 rfl (A0 rfl) rfl O6 H8 rfl) ?_
 refine D2 2 rfl rfl rfl (A0 rfl) (A0 rfl) (D6 _) rfl H8 rfl ?_
 refine A4 ?_
 refine C2 ?_
 refine Y4 9 1 ?_
 refine Y4 79 3 ?_
 (refine L5 [2, 1, 0] ((x18.1, ⟨1 + x6.2, 1 + x9.2, 1 + x12.2, 0, [], [], x18.2⟩, Value.slice none 0 0, Value.slice none 0 0)) ?_ rfl (by first | (dsimp only; rfl) | rfl) (P0 rfl (J9 (ys := _) 4 rfl rfl O6 H8 rfl)); (dsimp only [TRec.size]; exact ⟨by omega, by first | (simp [sizeL]; done) | (simp only [sizeL, I5, N4, List.map_cons, List.map_nil, List.sum_cons, List.sum_nil] at *; omega) | omega, by omega, by omega, by omega, by omega⟩))
end Go.Proofs.YtoaoicnnimjbeaaGreat

namespace Go.Proofs.YtoaoicnnimjbeaaGreat
open Go Go.AV Go.M
attribute [local irreducible] OpW OpA OpS AWP FSpec ESpec GSpec OpE RetOk RetOkG RvDen Le Ev GuardIs SrcIs SrcE Int.tmod IntKind.wrap bandI
end Go.Proofs.YtoaoicnnimjbeaaGreat

namespace Go.Proofs.YtoaoicnnimjbeaaGreat
open Go Go.AV Go.M
attribute [local irreducible] OpW OpA OpS AWP FSpec ESpec GSpec OpE RetOk RetOkG RvDen Le Ev GuardIs SrcIs SrcE Int.tmod IntKind.wrap bandI
end Go.Proofs.YtoaoicnnimjbeaaGreat

namespace Go.M
open Go.AV
def goodOs (l : List TOrder) : Bool := (l.all orderR && decide (l.map TOrder.Txn).Nodup) && decide (l.length ≤ 8)
theorem os_bad {l : List TOrder} {i : Nat} {o : TOrder} (h : l[i]? = some o) (ho : orderR o = false) : goodOs l = false := by
  unfold goodOs
  rw [show l.all orderR = false from by rw [List.all_eq_false]; exact ⟨o, F9 h, by rw [ho]; decide⟩]; rfl
theorem Aw0 {l : List TOrder} {i j : Nat} {o p : TOrder} (h : l[i]? = some o) (k : l[j]? = some p) (hij : j < i) (e : o.Txn = p.Txn) : goodOs l = false := by
  unfold goodOs
  rw [show decide (l.map TOrder.Txn).Nodup = false from decide_eq_false fun hn => ?_]
  · cases l.all orderR <;> rfl
  · obtain ⟨h1, e1⟩ := List.getElem?_eq_some_iff.1 h
    obtain ⟨h2, e2⟩ := List.getElem?_eq_some_iff.1 k
    have := List.pairwise_iff_getElem.1 hn j i (by rw [A8]; exact h2) (by rw [A8]; exact h1) hij
    simp only [List.getElem_map] at this
    rw [e1, e2] at this; exact this e.symm
theorem BD8 {l : List TOrder} (h1 : ∀ o ∈ l, orderR o = true) (h2 : ∀ (i j : Nat) (o p : TOrder), l[i]? = some o → l[j]? = some p → j < i → o.Txn ≠ p.Txn) : goodOs l = decide (l.length ≤ 8) := by
  unfold goodOs
  rw [show l.all orderR = true from List.all_eq_true.2 h1, decide_eq_true (p := (l.map TOrder.Txn).Nodup)]
  · rfl
  · refine List.pairwise_iff_getElem.2 fun i j hi hj hij => ?_
    rw [A8] at hi hj
    simp only [List.getElem_map]
    exact fun e => h2 j i _ _ (List.getElem?_eq_getElem hj) (List.getElem?_eq_getElem hi) hij e.symm
end Go.M
namespace Go.Proofs.YtoaoicnnimjbeaaGreat
open Go Go.AV Go.M
attribute [local irreducible] OpW OpA OpS AWP FSpec ESpec GSpec OpE RetOk RetOkG RvDen Le Ev GuardIs SrcIs SrcE Int.tmod IntKind.wrap bandI
theorem AL5 (l : List TOrder) (hs : ∀ o ∈ l, o.size ≤ 1048576) : FSpec Tryz.prog 51 [AV.list 3 (l.map TOrder.cs)] (AV.bool (goodOs l)) := by
 refine E2 Tryz.func51 rfl Tryz.ntmps51 rfl ?_
 refine U5 (t := 0) rfl fun hl => ?_
 try simp only [A8] at hl
 refine A3 (A2 ?_)
 refine A1 rfl (B6 rfl E9) ?_
 refine A4 (A3 (A3 (A2 ?_)))
 refine A5 rfl ?_
 refine A1 rfl (F6 rfl I0 (A0 rfl)) ?_
 refine A1 rfl (B8 rfl B4) ?_
 refine A4 (C7 ?_)
 refine J0 [(0, _), (7, _), (8, _)] _ (fun (i : Nat) => i ≤ l.length ∧ (∀ o ∈ l.take i, orderR o = true) ∧ ∀ (a j : Nat) (o p : TOrder), a < i → l[a]? = some o → l[j]? = some p → j < a → o.Txn ≠ p.Txn) (fun (i : Nat) => []) (fun (i : Nat) => [(9, AV.int i)]) (fun (i : Nat) => l.length - i) (0) ?_ (O8 (by rfl) ⟨rfl, rfl, rfl, rfl, trivial⟩) ?_
 ·exact ⟨Nat.zero_le _, fun o ho => (by cases ho), fun a j o p ha => by omega⟩
 intro i hinv
 refine A3 (A2 ?_)
 refine A1 rfl (J8 rfl (A0 rfl) (A0 rfl)) ?_
 refine A4 (A3 ?_)
 refine B9 (A0 rfl) ?_ ?_
 ·intro h10
  have k10 := of_decide_eq_true h10; try simp only [A8] at k10
  have hlt : i < l.length := by omega
  obtain ⟨x, hx⟩ := get_some hlt
  have hxs := hs x (F9 hx)
  have hinv0 := hinv
  refine C3 (A3 (C7 (A3 (A2 ?_))))
  refine A5 rfl ?_
  refine A1 rfl (I2 rfl I0 H4 (A0 rfl) (A0 rfl) hx (by first | omega | (simp only [C8, A7, szR] at *; omega))) ?_
  refine A1 rfl (K6 rfl (A0 rfl) Q4 H4) ?_
  refine F5 rfl rfl rfl rfl Tryz.zeroValue32 rfl ?_
  intro b4
  refine B3 rfl ?_
  refine D2 0 rfl rfl rfl (A0 rfl) (A0 rfl) (D6 _) rfl H4 rfl ?_
  refine A4 (A3 (A3 (A2 ?_)))
  refine A1 rfl (F1 0 rfl (A0 rfl) rfl Q4 H4 rfl) ?_
  refine A1 rfl (D7 rfl Tryz.call37 rfl (AQ5 x hxs) (A6 (A0 rfl) C0)) ?_
  refine A1 rfl (M2 rfl (A0 rfl)) ?_
  refine A4 ?_
  refine B9 (A0 rfl) ?_ ?_
  ·intro h16
   have he := os_bad hx (by simpa using h16)
   rw [he]
   refine A3 (A2 ?_)
   refine A1 rfl (B6 rfl E9) ?_
   refine A4 ?_
   refine C2 ?_
   exact I3 rfl (C1 rfl (by first | rfl | (rw [hfin]; exact congrArg AV.bool (by simp only [A8]; rcases Nat.lt_or_ge 8 l.length with h | h <;> simp <;> omega))))
  intro h16
  refine C3 (A3 (A2 ?_))
  refine A5 rfl ?_
  refine A5 rfl ?_
  refine A1 rfl (m8 rfl I0 H4 (A0 rfl) (A0 rfl) (by first | omega | (simp only [C8, A7, szR] at *; omega)) (by first | omega | (simp only [C8, A7, szR] at *; omega))) ?_
  refine A1 rfl (F6 rfl I0 (A0 rfl)) ?_
  refine A1 rfl (B8 rfl B4) ?_
  refine A4 (C7 ?_)
  refine AWP.le (F8 [0] rfl) ?_
  refine J0 [(0, _), (3, _), (4, _), (7, _), (8, _), (9, _), (10, _), (11, _), (12, _), (13, _), (14, _), (15, _), (16, _), (17, _), (18, _), (19, _), (20, _)] _ (fun (j : Nat) => j ≤ i ∧ ∀ (a : Nat) (p : TOrder), a < j → l[a]? = some p → x.Txn ≠ p.Txn) (fun (j : Nat) => [.box b4 32 x.cs]) (fun (j : Nat) => [(21, AV.int j)]) (fun (j : Nat) => i - j) (0) ?_ (O8 (by rfl) ⟨rfl, rfl, rfl, rfl, rfl, rfl, rfl, rfl, rfl, rfl, rfl, rfl, rfl, rfl, rfl, rfl, rfl, rfl, trivial⟩) ?_
  ·exact ⟨Nat.zero_le _, fun a p ha => by omega⟩
  intro j hinv
  refine A3 (A2 ?_)
  refine A1 rfl (J8 rfl (A0 rfl) (A0 rfl)) ?_
  refine A4 (A3 ?_)
  refine B9 (A0 rfl) ?_ ?_
  ·intro h22
   have k22 := of_decide_eq_true h22; try simp only [A8] at k22
   have hltj : j < i := by (simp only [D9] at k22; omega)
   obtain ⟨y, hy⟩ := get_some (show j < l.length by omega)
   refine C3 (A3 (C7 (A3 (A2 ?_))))
   refine A1 rfl (I2 rfl I0 H4 (A0 rfl) (A0 rfl) (show (l.take i)[j]? = some y by rw [List.getElem?_take_of_lt hltj]; exact hy) (by first | omega | (simp only [C8, A7, szR] at *; omega))) ?_
   refine A1 rfl (K6 rfl (A0 rfl) Q4 H4) ?_
   refine F5 rfl rfl rfl rfl Tryz.zeroValue32 rfl ?_
   intro b6
   refine D2 0 rfl rfl rfl (A0 rfl) (A0 rfl) (D6 _) rfl H4 rfl ?_
   refine A4 (A3 (A2 ?_))
   refine A1 rfl (B1 0 rfl H1 rfl B5 (A0 rfl) rfl) ?_
   refine A1 rfl (B0 1 rfl (A0 rfl) rfl C6 rfl) ?_
   refine A1 rfl (B1 0 rfl H1 rfl B5 (A0 rfl) rfl) ?_
   refine A1 rfl (B0 0 rfl (A0 rfl) rfl C6 rfl) ?_
   refine A1 rfl (O1 rfl (A0 rfl) (A0 rfl)) ?_
   refine A4 ?_
   refine B9 (A0 rfl) ?_ ?_
   ·intro h29
    have k29 := M7 h29; try simp only [A8] at k29
    have he := Aw0 hx hy hltj k29
    rw [he]
    refine A3 (A2 ?_)
    refine A1 rfl (B6 rfl E9) ?_
    refine A4 ?_
    refine C2 ?_
    exact I3 rfl (C1 rfl (by first | rfl | (rw [hfin]; exact congrArg AV.bool (by simp only [A8]; rcases Nat.lt_or_ge 8 l.length with h | h <;> simp <;> omega))))
   intro h29
   have k29 := M6 h29; try simp only [A8] at k29
   refine C3 (A2 ?_)
   refine A1 rfl (G0 rfl (A0 rfl) B4 (by first | omega | (simp only [C8, A7, szR] at *; omega))) ?_
   refine A5 rfl ?_
   refine A4 ?_
   refine K4 j (j + 1) ?_ ?_ (Le.trans (F8 [0, 0] rfl) (K0 1 (by rfl) ⟨rfl, rfl, rfl, rfl, rfl, rfl, rfl, rfl, rfl, rfl, rfl, rfl, rfl, rfl, rfl, rfl, rfl, rfl, trivial⟩))
   ·exact ⟨by omega, fun a p ha h2 => by (rcases Nat.lt_or_ge a j with h3 | h3; (exact hinv.2 a p h3 h2); (have ej : a = j := (by omega); subst ej; rw [hy] at h2; injection h2 with h2; subst h2; exact k29))⟩
   omega
  intro h22
  have k22 := of_decide_eq_false h22; try simp only [A8] at k22
  have hgej : j = i := by (simp only [D9] at k22; omega)
  refine G1 ?_
  refine A2 ?_
  refine A1 rfl (G0 rfl (A0 rfl) B4 (by first | omega | (simp only [C8, A7, szR] at *; omega))) ?_
  refine A5 rfl ?_
  refine A4 ?_
  refine K4 i (i + 1) ?_ ?_ (Le.trans (F8 [0] rfl) (K0 1 (by rfl) ⟨rfl, rfl, rfl, rfl, trivial⟩))
  ·exact ⟨by omega, fun q hq => by (rw [List.take_add_one, hx] at hq; rcases List.mem_append.1 hq with hq | hq; (exact hinv0.2.1 q hq); (simp at hq; subst hq; simpa using h16)), fun a j o p ha h1 h2 hj => by (rcases Nat.lt_or_ge a i with h3 | h3; (exact hinv0.2.2 a j o p h3 h1 h2 hj); (have ei : a = i := (by omega); subst ei; rw [hx] at h1; injection h1 with h1; subst h1; exact hinv.2 j p (by omega) h2))⟩
  omega
 intro h10
 have k10 := of_decide_eq_false h10; try simp only [A8] at k10
 have hge : l.length ≤ i := by omega
 have hfin := BD8 (l := l) (fun o ho => hinv.2.1 o (by rw [List.take_of_length_le hge]; exact ho)) (fun a j o p h1 h2 hj => hinv.2.2 a j o p (by have := (List.getElem?_eq_some_iff.1 h1).1; omega) h1 h2 hj)
 refine G1 ?_
 refine A3 (A2 ?_)
 refine A5 rfl ?_
 refine A1 rfl (F6 rfl I0 (A0 rfl)) ?_
 refine A1 rfl (X2 rfl (A0 rfl) B4) ?_
 refine B3 rfl ?_
 refine A4 ?_
 refine C2 ?_
 exact I3 rfl (C1 rfl (by first | rfl | (rw [hfin]; exact congrArg AV.bool (by simp only [A8]; rcases Nat.lt_or_ge 8 l.length with h | h <;> simp <;> omega))))
end Go.Proofs.YtoaoicnnimjbeaaGreat

namespace Go.Proofs.YtoaoicnnimjbeaaGreat
open Go Go.AV Go.M
attribute [local irreducible] OpW OpA OpS AWP FSpec ESpec GSpec OpE RetOk RetOkG RvDen Le Ev GuardIs SrcIs SrcE Int.tmod IntKind.wrap bandI
end Go.Proofs.YtoaoicnnimjbeaaGreat
