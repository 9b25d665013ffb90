/- Texts of the claim, part 6. -/
import Derived.RangeFuncNested
import Derived.RangeFuncBound
import Derived.RangeFuncCalls
import Derived.RangeFuncLeaves
import Derived.RangeFuncBox
import Derived.Shelf.Abstract
import Derived.Shelf.RegionOpen
import Derived.WalkKit
import Derived.OwnWalkIn
import Derived.TacticsInMore
import Derived.LoopNIn
import Derived.LoopIn
import Derived.Test.YtogeipbkjamdkaaGreatDoorZOrders5
set_option linter.defProp false
set_option linter.unusedVariables false
set_option linter.unusedSimpArgs false
set_option maxRecDepth 100000
set_option maxHeartbeats 4000000
namespace Go.M
open Go.AV
theorem CF4 {rows ws : List A4} (h : adj T1 rows = true) : AZ3 rows ws = if ((a7 rows ws).length : Int) ≤ 24 then (a7 rows ws, true) else ([], false) := by
  unfold AZ3 a7;rw [CQ4 h];by_cases hc : ((Ag6 (Aq8 rows ws)).length : Int) ≤ 24
  · rw [D1 hc, D4 qz8]
  · rw [D4 hc, D1 qz8]
theorem AW9 {h : List B4} {o : List Int} {i : Nat} {n : Int} {rows : List A4} {r : Bool} (hx : o[i]? = some n) : AT2 h (o.drop i) rows r = if (G7 h n).Yes = true then (if ((a7 rows (G7 h n).Writes).length : Int) ≤ 24 then AT2 h (o.drop (i + 1)) (a7 rows (G7 h n).Writes) (r && j3 rows (G7 h n)) else none) else AT2 h (o.drop (i + 1)) rows r := by rw [BQ5 hx]; rfl
theorem BQ6 {h : List B4} {o : List Int} {rows : List A4} {r : Bool} (ho : AD5 h o = true) (e : AT2 h o [] true = some (rows, r)) : AJ7 h o = (rows, r, true) := by unfold AJ7; rw [D1 ho, e]
theorem Co7 {h : List B4} {o : List Int} (ho : AD5 h o = true) (e : AT2 h o [] true = none) : AJ7 h o = ([], false, false) := by unfold AJ7; rw [D1 ho, e]
def m8 (a b : Int) : Int := if b < a then a else b
def BS3 (s : H2) (n : Int) : Int × Bool := if (q9 s && AC1 n) = true then (if m8 s.Floor n + 1 ≤ 100000 then (m8 s.Floor n + 1, true) else (0, false)) else (0, false)
theorem Br3 {n : Int} : AC1 n = true ↔ 0 ≤ n ∧ n ≤ 100000 := by unfold AC1 within; simp only [F0, I4]
def AL1 (c : u9) : Bool := within c.Off (-5) 5
def AF3 (c : u9) (now : Int) : An8 := ⟨now + c.Off - 5, now + c.Off + 5⟩
theorem CJ5 {c : u9} : AL1 c = true ↔ -5 ≤ c.Off ∧ c.Off ≤ 5 := by unfold AL1 within; simp only [F0, I4]
def Ad0 (m : Int) (l : List Int) : Int := l.foldl m8 m
theorem Bh4 {m : Int} {l : List Int} {i : Nat} {x : Int} (h : l[i]? = some x) : Ad0 m (l.take (i + 1)) = m8 (Ad0 m (l.take i)) x := by
  unfold Ad0;rw [V7, h, List.foldl_append]; rfl
theorem Cx0 {l : List K1} {i : Nat} {e : K1} (h : l[i]? = some e) : AR7 (l.take (i + 1)) = AR7 (l.take i) ++ [e.Rec] := by
  unfold AR7; rw [V7, h, V1]; rfl
theorem CF5 {l : List F3} {i : Nat} {r b : F3} (h : l[i]? = some r) : (l.take (i + 1)).foldl (fun b r => if b.Sure < r.Sure then r else b) b = (if ((l.take i).foldl (fun b r => if b.Sure < r.Sure then r else b) b).Sure < r.Sure then r else (l.take i).foldl (fun b r => if b.Sure < r.Sure then r else b) b) := by
  rw [V7, h, List.foldl_append]; rfl
structure LogK (l : List K1) : Prop where
  len : l.length ≤ 60
  recs : ∀ e ∈ l, e.Rec.size ≤ 1100
theorem By2 {r : F3} {t : Int} (h : GR r t) : LogK r.Log := ⟨h.len, fun e he => L4 (Ah6 (h.ents e he).2.2) D5⟩
theorem BK4 {α : Type} {l : List α} {i : Nat} {x : α} (h : l[i]? = some x) : l.set i x = l := by
  apply List.ext_getElem?
  intro j;by_cases e : i = j
  · subst e; rw [AR3 (F4.1 h).1, h]
  · rw [Aa8 e]
end Go.M
namespace Go.PQ
open Go.Proofs
open Go Go.AV Go.M
attribute [local irreducible] OpW OpA OpS AWP J3 K8 K0 OpE J6 H5 J9 Le Ev F8 L6
theorem BT2 (l ws : List A4) (hl : l.length ≤ 2097151) (hw : ws.length ≤ 2097152) : F6 27 [AV.list 3 (l.map A4.cs), AV.list 3 (ws.map A4.cs)] (AV.tup [AV.list 3 ((AZ3 l ws).1.map A4.cs), AV.bool (AZ3 l ws).2]) :=
  N7 (Cb3 l ws hl hw) fun x _ => AU0 (E2 (M1 (V8.2 rfl) G6) (E2 J0 o5))
theorem BK5 (h : List B4) (o : List Int) (hs : ∀ d ∈ h, d.size ≤ 1048576) (hl : h.length ≤ 4611686018427387904) : F6 10 [AV.list 8 (h.map B4.cs), ints o] (AV.tup [AV.list 3 ((AJ7 h o).1.map A4.cs), AV.bool (AJ7 h o).2.1, AV.bool (AJ7 h o).2.2]) := by
 refine B8 Tryz.func10 rfl Tryz.ntmps10 rfl ?_;refine W4 (t := 1) rfl fun hol => ?_;try simp only [A6] at hol
 refine R2 ?_;refine A1 rfl (D8 rfl (O2 (sz := 3))) ?_;refine R8 ?_;refine A1 rfl (A9 rfl Tryz.call24 rfl (BK2 _ _ AQ3 q7) (A3 (A0 rfl) (A3 (A0 rfl) B2))) ?_;refine R2 ?_;refine A2 ?_ ?_
 ·intro h16;have he : AJ7 h o = ([], false, false) := (by unfold AJ7; rw [D4 Ba7]);rw [he];refine R2 ?_;refine A1 rfl (D8 rfl (O2 (sz := 3))) ?_;refine R4 ?_;exact X5 rfl D5 AJ1
 intro h16;have hor : AD5 h o = true := Ba7;obtain ⟨o1, o2, o3⟩ := Ag3.1 hor;refine R18 ?_;refine V5 [(0, _), (18, _), (19, _)] _ (fun (i : Nat) (rows : List A4) (r : Bool) => i ≤ o.length ∧ AT2 h o [] true = AT2 h (o.drop i) rows r ∧ adj T1 rows = true ∧ rows.length ≤ 24) (fun i rows r => []) (fun i rows r => [(7, AV.list 3 (rows.map A4.cs)), (8, AV.bool r), (20, AV.int i)]) (fun i rows r => o.length - i) (0) ([]) (true) ?_ (I6 B7 A5) ?_
 ·exact ⟨D6 _, rfl, rfl, D6 _⟩
 intro i rows r hinv;refine R5 ?_;refine A2 ?_ ?_
 ·intro h21;have k21 := C6 h21;have hlt : i < o.length := (by simpa using h21);obtain ⟨x, hx⟩ := B3 hlt;have hxr := o1 x (C3 hx);have hdm := An0 hxr;have hds := BY7 (hs _ hdm.1);have hadj := hinv.2.2.1;have hpr := CF4 (ws := (G7 h x).Writes) hinv.2.2.1;refine R5 ?_;refine A1 rfl (C7 rfl C9 D0 (A0 rfl) (A0 rfl) hx qz3) ?_;refine R8 ?_;refine A1 rfl (C7 rfl G2 L3 (A0 rfl) (A0 rfl) (AA1 hxr) qz8) ?_;refine R4 ?_;refine A2 ?_ ?_
  ·intro h29;have hno : (G7 h x).Yes = false := (by simpa using h29);refine R5 ?_;refine P2 i rows r (i + 1) (rows) (r) ?_ ?_ (I6 B7 A5)
   ·first | exact ⟨by omega, by rw [hinv.2.1, AW9 hx, D4 (by rw [hno]; decide)], hinv.2.2.1, hinv.2.2.2⟩ | exact ⟨by omega, by rw [hinv.2.1, AW9 hx, D1 hyes, D1 hfit], BP8 hinv.2.2.1, by omega⟩
   omega
  intro h29;have hyes : (G7 h x).Yes = true := (by simpa using h29);refine R7 ?_;refine N4 rfl (fun hc => C7 rfl G2 L3 (A8 rfl hc) (A8 rfl hc) (AA1 hxr) qz8) ?_;refine R2 ?_;refine N4 rfl (fun hc => A9 rfl Tryz.call26 rfl (BT1 (G7 h x) rows hadj qz8) (A3 (A8 rfl hc) (A3 (A8 rfl hc) B2))) ?_;refine R8 ?_;refine A1 rfl (C7 rfl G2 L3 (A0 rfl) (A0 rfl) (AA1 hxr) qz8) ?_;refine R2 ?_;refine A1 rfl (A9 rfl Tryz.call27 rfl (BT2 rows (G7 h x).Writes qz8 qz8) E4) ?_;refine R12 ?_;refine A2 ?_ ?_
  ·intro h50;have hnf : ¬ ((a7 rows (G7 h x).Writes).length : Int) ≤ 24 := (fun hc => by rw [hpr, D1 hc] at h50; cases h50);have he : AJ7 h o = ([], false, false) := Co7 hor (by rw [hinv.2.1, AW9 hx, D1 hyes, D4 hnf]);rw [he];refine R2 ?_;refine A1 rfl (D8 rfl (O2 (sz := 3))) ?_;refine R4 ?_;exact X5 rfl D5 AJ1
  intro h50;have hfit : ((a7 rows (G7 h x).Writes).length : Int) ≤ 24 := Classical.byContradiction (fun hc => by rw [hpr, D4 hc] at h50; cases h50);rw [D1 hfit] at hpr;simp only [hpr];refine R9 ?_;refine P2 i rows r (i + 1) (a7 rows (G7 h x).Writes) ((r && j3 rows (G7 h x))) ?_ ?_ (I6 B7 A5)
  ·first | exact ⟨by omega, by rw [hinv.2.1, AW9 hx, D4 (by rw [hno]; decide)], hinv.2.2.1, hinv.2.2.2⟩ | exact ⟨by omega, by rw [hinv.2.1, AW9 hx, D1 hyes, D1 hfit], BP8 hinv.2.2.1, by omega⟩
  omega
 intro h21;have k21 := C2 h21;have hge : o.length ≤ i := (by simpa using h21);have hfin : AJ7 h o = (rows, r, true) := BQ6 hor CL1;rw [hfin];refine R10 ?_;exact X5 rfl D5 AJ1
end Go.PQ
namespace Go.PQ
open Go.Proofs
open Go Go.AV Go.M
attribute [local irreducible] OpW OpA OpS AWP J3 K8 K0 OpE J6 H5 J9 Le Ev F8 L6
end Go.PQ
namespace Go.PQ
open Go.Proofs
open Go Go.Proofs Go.RowKit Go.Shelf Go.M
attribute [local go_sem] Oper.semAt_some
attribute [local go_sem] Oper.semAt_some
end Go.PQ
namespace Go.PQ
open Go.Proofs
open Go Go.AV Go.M
attribute [local irreducible] OpW OpA OpS AWP J3 K8 J6 J9 Le Ev F8
theorem Co8 (c : C4) (t : Int) (hl : c.Vers.length ≤ 4194304) : F6 205 [AV.agg c.cs, AV.int t] (AV.tup [AV.agg ((Aa9 c.Vers t).getD zV).cs, AV.bool (Aa9 c.Vers t).isSome]) := by
 refine B8 Tryz.func205 rfl Tryz.ntmps205 rfl ?_;refine R3 ?_;intro b2;refine R1 ?_;intro b4;refine R5 ?_;intro b6;refine R14 ?_;refine E9 [(1, _), (4, _), (5, _), (6, _), (11, _), (12, _)] _ (fun (i : Nat) => i ≤ c.Vers.length) (fun i => [.box b6 257 ((Aa9 (c.Vers.take i) t).getD zV).cs]) (fun i => [(7, AV.bool (Aa9 (c.Vers.take i) t).isSome), (13, AV.int i)]) (fun i => c.Vers.length - i) (0) ?_ (I6 B7 A5) ?_
 ·exact D6 _
 intro i hinv;refine R5 ?_;refine A2 ?_ ?_
 ·intro h14;have k14 := C6 h14;have hlt : i < c.Vers.length := by omega
  obtain ⟨x, hx⟩ := B3 hlt;have hvs := Ck8 (t := t) hx;refine R5 ?_;refine A1 rfl (C7 rfl Z5 AC4 (A0 rfl) (A0 rfl) hx qz3) ?_;refine R2 ?_;intro b9;refine R9 ?_;refine A2 ?_ ?_
  ·intro h20;have k20 := C6 h20;have hve : Aa9 (c.Vers.take (i + 1)) t = some x := by rw [hvs, D1 k20]
   refine R12 ?_;refine F7 i (i + 1) ?_ ?_ (E8 1 (by first | (rw [hve]; rfl) | (rw [hve])) ⟨D7 (fun z : Bool => some (AV.bool z)) (by rw [hve]; try rfl), rfl, rfl, rfl, rfl, rfl, rfl, rfl, trivial⟩)
   ·omega
   omega
  intro h20;have k20 := C2 h20;have hve : Aa9 (c.Vers.take (i + 1)) t = Aa9 (c.Vers.take i) t := by rw [hvs, D4 k20]
  refine R5 ?_;refine F7 i (i + 1) ?_ ?_ (E8 1 (by first | (rw [hve]; rfl) | (rw [hve])) ⟨D7 (fun z : Bool => some (AV.bool z)) (by rw [hve]; try rfl), rfl, rfl, rfl, rfl, rfl, rfl, rfl, trivial⟩)
  ·omega
  omega
 intro h14;have k14 := C2 h14;have hge : c.Vers.length ≤ i := by omega
 rw [U1 hge];refine R9 ?_;exact X5 rfl D5 (H7 (H8 (ys := _) 1 rfl rfl Tryz.isAgg257 AC4 rfl) (H7 (A7 rfl (by first | rfl | exact D7 AV.bool (by rw [U1 hge]))) l9))
theorem Bh5 (l : List C4) (k : Str) (t : Int) (hs : D2 C4.size l ≤ 4194304) : F6 190 [AV.list 2 (l.map C4.cs), AV.str k, AV.int t] (AV.tup [AV.str (cellAt l k t).1, AV.bool (cellAt l k t).2]) := by
 refine B8 Tryz.func190 rfl Tryz.ntmps190 rfl ?_;refine R2 ?_;refine A1 rfl (D8 rfl (N9 (l := []) rfl)) ?_;refine R6 ?_;refine A1 rfl (A9 rfl Tryz.call204 rfl (BX8 _ _) E4) ?_;refine R8 ?_;refine A2 ?_ ?_
 ·intro h15;have k15 := C6 h15;have he : cellAt l k t = ([], false) := Ca0 (Bw6 k15);rw [he];refine R2 ?_;refine A1 rfl (D8 rfl (N9 (l := []) rfl)) ?_;refine R3 ?_;exact X5 rfl D5 AQ4
 intro h15;have k15 := C2 h15;obtain ⟨p, c, hp, hc, hf⟩ := Bw7 k15;rw [hp];have hcl := (BB4 (L4 (m6 hc) hs)).2.1;have he := (Ca1 (t := t) hf).trans (CH8 c t);rw [he];refine R5 ?_;refine A1 rfl (C7 rfl I9 T4 (A0 rfl) (A0 rfl) hc qz3) ?_;refine R2 ?_;refine A1 rfl (A9 rfl Tryz.call205 rfl (Co8 _ _ q7) (A3 (A0 rfl) (A3 (A0 rfl) B2))) ?_;refine R4 ?_;intro b9;refine R17 ?_;exact X5 rfl D5 AQ4
theorem Bl1 (a b : List A4) : F6 17 [AV.list 3 (a.map A4.cs), AV.list 3 (b.map A4.cs)] (AV.bool (decide (a = b))) := by
 refine B8 Tryz.func17 rfl Tryz.ntmps17 rfl ?_;refine W4 (t := 0) rfl fun hl => ?_;try simp only [A6] at hl
 refine R13 ?_;refine A2 ?_ ?_
 ·intro h10;have k10 := BD4 h10;(try simp only [A6] at k10);have hab : a ≠ b := by intro hc; subst hc; exact k10 rfl
  refine R5 ?_;exact E5 rfl (A7 rfl Bb3)
 intro h10;have k10 := Aa3 h10;(try simp only [A6] at k10);have heq : a.length = b.length := by omega
 refine R9 ?_;refine E9 [(0, _), (1, _), (12, _)] _ (fun (i : Nat) => i ≤ a.length ∧ a.take i = b.take i) (fun i => []) (fun i => [(13, AV.int i)]) (fun i => a.length - i) (0) ?_ (F5 A5) ?_
 ·exact ⟨D6 _, rfl⟩
 intro i hinv;refine R5 ?_;refine A2 ?_ ?_
 ·intro h14;have k14 := C6 h14;have hlt : i < a.length := by omega
  obtain ⟨x, hx⟩ := B3 hlt;obtain ⟨y, hy⟩ := B3 (show i < b.length by omega);refine R12 ?_;refine C1 rfl rfl (C7 rfl C0 F2 (A0 rfl) (A0 rfl) hx qz3) ?_;refine R3 ?_;refine C1 rfl rfl (C7 rfl C0 F2 (A0 rfl) (A0 rfl) hy qz3) ?_;refine R1 ?_;refine C1 rfl rfl (BU9 rfl Tryz.underlying69 E3 E3 (A0 rfl) (A0 rfl) (AE7 E3 AA4 rfl rfl (Ak1 M2) (AE7 E3 AA4 rfl rfl (Ak1 M2) (AE7 E3 AA3 rfl rfl (BA2 T9) BI7)))) ?_;refine R1 ?_;refine A2 ?_ ?_
  ·intro h24;have hab : a ≠ b := by intro hc; subst hc; rw [hx] at hy; injection hy with hy; subst hy; simp at h24
   refine R5 ?_;exact E5 rfl (A7 rfl Bb3)
  intro h24;refine R5 ?_;refine F7 i (i + 1) ?_ ?_ (F5 A5)
  ·exact ⟨by omega, BV6 hinv.2 hx (by rw [hy]; congr 1; first | (simp_all; done) | (cases x; cases y; simp_all))⟩
  omega
 intro h14;have k14 := C2 h14;have hge : a.length ≤ i := by omega
 have hab : a = b := Bn7 heq hinv.2 hge;refine R6 ?_;exact E5 rfl (A7 rfl Bb3)
end Go.PQ
namespace Go.PQ
open Go.Proofs
open Go Go.AV Go.M
attribute [local irreducible] OpW OpA OpS AWP J3 K8 K0 OpE J6 H5 J9 Le Ev F8 L6 Int.tmod IntKind.wrap Q7
end Go.PQ
namespace Go.PQ
open Go.Proofs
open Go Go.AV Go.M
attribute [local irreducible] OpW OpA OpS AWP J3 K8 K0 OpE J6 H5 J9 Le Ev F8 L6 Z8 Int.tmod Int.tdiv IntKind.wrap Q7
theorem CJ6 (a b : List Int) : F6 8 [ints a, ints b] (AV.bool (decide (a = b))) := by
 refine B8 Tryz.func8 rfl Tryz.ntmps8 rfl ?_;refine W4 (t := 0) rfl fun hl => ?_;try simp only [A6] at hl
 refine R13 ?_;refine A2 ?_ ?_
 ·intro h10;have k10 := BD4 h10;(try simp only [A6] at k10);have hab : a ≠ b := by intro hc; subst hc; exact k10 rfl
  refine R5 ?_;exact E5 rfl (A7 rfl Bb3)
 intro h10;have k10 := Aa3 h10;(try simp only [A6] at k10);have heq : a.length = b.length := by omega
 refine R9 ?_;refine E9 [(0, _), (1, _), (12, _)] _ (fun (i : Nat) => i ≤ a.length ∧ a.take i = b.take i) (fun i => []) (fun i => [(13, AV.int i)]) (fun i => a.length - i) (0) ?_ (F5 A5) ?_
 ·exact ⟨D6 _, rfl⟩
 intro i hinv;refine R5 ?_;refine A2 ?_ ?_
 ·intro h14;have k14 := C6 h14;have hlt : i < a.length := by omega
  obtain ⟨x, hx⟩ := B3 hlt;obtain ⟨y, hy⟩ := B3 (show i < b.length by omega);refine R12 ?_;refine C1 rfl rfl (C7 rfl C9 D0 (A0 rfl) (A0 rfl) hx qz3) ?_;refine R3 ?_;refine C1 rfl rfl (C7 rfl C9 D0 (A0 rfl) (A0 rfl) hy qz3) ?_;refine R3 ?_;refine A2 ?_ ?_
  ·intro h24;have k24 := BD4 h24;(try simp only [A6] at k24);have hab : a ≠ b := by intro hc; subst hc; rw [hx] at hy; injection hy with hy; subst hy; simp at h24
   refine R5 ?_;exact E5 rfl (A7 rfl Bb3)
  intro h24;have k24 := Aa3 h24;(try simp only [A6] at k24);refine R5 ?_;refine F7 i (i + 1) ?_ ?_ (F5 A5)
  ·exact ⟨by omega, BV6 hinv.2 hx (by rw [hy]; congr 1; simp_all)⟩
  omega
 intro h14;have k14 := C2 h14;have hge : a.length ≤ i := by omega
 have hab : a = b := Bn7 heq hinv.2 hge;refine R6 ?_;exact E5 rfl (A7 rfl Bb3)
end Go.PQ
namespace Go.PQ
open Go.Proofs
open Go Go.AV Go.M
attribute [local irreducible] OpW OpA OpS AWP J3 K8 K0 OpE J6 H5 J9 Le Ev F8 L6 Z8 Int.tmod Int.tdiv IntKind.wrap Q7
theorem Be8 (s : H2) (n : Int) (hs : s.size ≤ 400000) : F6 237 [AV.agg s.cs, AV.int n] (AV.tup [AV.int (BS3 s n).1, AV.bool (BS3 s n).2]) := by
 refine B8 Tryz.func237 rfl Tryz.ntmps237 rfl ?_;refine R3 ?_;intro b2;refine R7 ?_;refine A1 rfl (A9 rfl Tryz.call241 rfl (Bq0 s qz8) L2) ?_;refine R3 ?_;refine W9 rfl (fun hc => A9 rfl Tryz.call72 rfl (BH2 _) (A3 (A8 rfl hc) B2)) ?_;refine R6 ?_;refine W9 rfl (fun hc => A9 rfl Tryz.call153 rfl (AC3 _ _) (A3 (A8 rfl hc) (A3 (A8 rfl hc) B2))) ?_;refine R3 ?_;refine A2 ?_ ?_
 ·intro h20;have he : BS3 s n = (0, false) := by (unfold BS3 m8; cases h1 : q9 s <;> cases h2 : M.AC1 n <;> simp_all)
  rw [he];refine R6 ?_;exact X5 rfl D5 AQ4
 intro h20;have hg : q9 s = true ∧ M.AC1 n = true := by (cases h1 : q9 s <;> cases h2 : M.AC1 n <;> simp_all)
 have hn := Br3.1 hg.2;have hfl := (AY1.1 hg.1).floor;have hml : 0 ≤ m8 s.Floor n ∧ m8 s.Floor n ≤ 100000 := by (unfold m8; split <;> omega)
 have hne : m8 s.Floor n ≠ 100000 := fun hc9 => by (rw [hg.1, hg.2, show (if n < s.Floor then s.Floor else n) = (100000 : Int) from hc9] at h20; simp at h20)
 have he : BS3 s n = (m8 s.Floor n + 1, true) := by (unfold BS3; rw [D1 (by rw [hg.1, hg.2]; rfl), D1 qz8])
 rw [he];refine R6 ?_;refine A1 rfl (A9 rfl Tryz.call153 rfl (AC3 _ _) E4) ?_;refine A1 rfl (BI5 rfl (A0 rfl) I7 (by show _ ≤ m8 s.Floor n + 1 ∧ m8 s.Floor n + 1 ≤ _; omega)) ?_;refine R4 ?_;exact X5 rfl D5 AQ4
end Go.PQ
namespace Go.AV
end Go.AV
namespace Go.PQ
open Go.Proofs
open Go Go.AV Go.M
attribute [local irreducible] OpW OpA OpS AWP J3 K8 K0 OpE J6 H5 J9 Le Ev F8 L6 Z8 Int.tmod Int.tdiv IntKind.wrap Q7
theorem Cx1 (c : u9) (now : Int) (hc : AL1 c = true) (hn : AC1 now = true) : F6 178 [AV.agg c.cs, AV.int now] (AV.agg (AF3 c now).cs) := by
  have h1 := CJ5.1 hc;have h2 := Br3.1 hn;refine B8 Tryz.func178 rfl Tryz.ntmps178 rfl ?_;refine R3 ?_;intro b2;refine R1 ?_;intro b4;refine R17 ?_;exact E5 rfl (H8 (ys := _) 0 rfl rfl Tryz.isAgg217 Tryz.sizeOf217 rfl)
end Go.PQ
namespace Go.PQ
open Go.Proofs
open Go Go.AV Go.M
attribute [local irreducible] OpW OpA OpS AWP J3 K8 K0 OpE J6 H5 J9 Le Ev F8 L6 Z8 Int.tmod Int.tdiv IntKind.wrap Q7
theorem By3 (l : List Int) (s : An8) (hs : s.High ≤ 1000000 ∧ -1000000 ≤ s.High) : F6 231 [ints l, AV.agg s.cs] (AV.int (Ad0 (s.High + 1) l)) := by
 refine B8 Tryz.func231 rfl Tryz.ntmps231 rfl ?_;refine W4 (t := 0) rfl fun hl => ?_;try simp only [A6] at hl
 refine R3 ?_;intro b3;refine R17 ?_;refine K3 [(4, _), (11, _), (12, _)] _ (fun (i : Nat) (m : Int) => i ≤ l.length ∧ m = Ad0 (s.High + 1) (l.take i)) (fun i m => []) (fun i m => [(5, AV.int m), (13, AV.int i)]) (fun i m => l.length - i) (0) (s.High + 1) ?_ (F5 A5) ?_
 ·exact ⟨D6 _, rfl⟩
 intro i m hinv;refine R5 ?_;refine A2 ?_ ?_
 ·intro h14;have k14 := C6 h14;have hlt : i < l.length := by omega
  obtain ⟨x, hx⟩ := B3 hlt;refine R5 ?_;refine A1 rfl (C7 rfl C9 D0 (A0 rfl) (A0 rfl) hx qz3) ?_;refine R6 ?_;refine A1 rfl (A9 rfl Tryz.call153 rfl (AC3 _ _) E4) ?_;refine R6 ?_;refine G8 i m (i + 1) (m8 m x) ?_ ?_ (F5 A5)
  ·exact ⟨by omega, by rw [Bh4 hx, hinv.2]⟩
  omega
 intro h14;have k14 := C2 h14;have hge : l.length ≤ i := by omega
 rw [show m = Ad0 (s.High + 1) l from by rw [hinv.2, U1 hge]];refine R7 ?_;exact E5 rfl (A7 rfl B7)
theorem CJ7 (s : H2) (x : An8) (hs : s.Floor ≤ 1000000 ∧ -1000000 ≤ s.Floor) (hx : x.High ≤ 1000000 ∧ -1000000 ≤ x.High) : F6 165 [AV.agg s.cs, AV.agg x.cs] (AV.int (m8 1 (m8 (s.Floor + 1) (x.High + 10)))) := by
  refine B8 Tryz.func165 rfl Tryz.ntmps165 rfl ?_;refine R3 ?_;intro b2;refine R1 ?_;intro b3;refine R10 ?_;refine A1 rfl (A9 rfl Tryz.call153 rfl (AC3 _ _) E4) ?_;refine A1 rfl (A9 rfl Tryz.call153 rfl (AC3 _ _) (A3 I7 L2)) ?_;refine R3 ?_;exact E5 rfl (A7 rfl B7)
end Go.PQ
namespace Go.PQ
open Go.Proofs
open Go Go.AV Go.M
attribute [local irreducible] OpW OpA OpS AWP J3 K8 K0 OpE J6 H5 J9 Le Ev F8 L6 Z8 Int.tmod Int.tdiv IntKind.wrap Q7
theorem Av9 (l : List K1) (m : Int) (hm : 0 ≤ m ∧ m ≤ l.length) (hk : LogK l) : F6 154 [AV.list 8 (l.map K1.cs), AV.int m] (AV.agg (Ba5 l m.toNat).cs) := by
 obtain ⟨n, rfl⟩ : ∃ n : Nat, m = (n : Int) := ⟨m.toNat, by omega⟩;have hnl : n ≤ l.length := by omega
 have hl6 := hk.len;refine B8 Tryz.func154 rfl Tryz.ntmps154 rfl ?_;refine R3 ?_;intro b4;refine R3 ?_;refine T6 220 7 rfl rfl rfl rfl H3 ?_;intro v5;refine R6 ?_;refine A1 rfl (AN2 rfl Q0 Y0 (A0 rfl) (A0 rfl) qz8 (by (try simp only [A6]); omega)) ?_;refine R4 ?_;refine K3 [(4, _), (12, _), (13, _)] _ (fun (i : Nat) (v : Value) => i ≤ n) (fun i v => [.arr v 220 7 ((AR7 (l.take i)).map O0.cs)]) (fun i v => [(5, AV.is v), (14, AV.int i)]) (fun i v => n - i) (0) (v5) ?_ (I6 B7 A5) ?_
 ·exact D6 _
 intro i v hinv;refine R5 ?_;refine A2 ?_ ?_
 ·intro h15;have k15 := C6 h15;have hlt : i < n := (by simp only [A6, I5] at k15; omega);obtain ⟨x, hx⟩ := B3 (show i < l.length by omega);have hx2 : (l.take ((n : Int)).toNat)[i]? = some x := (by rw [AC6, AI0 hlt]; exact hx);have hrl : (AR7 (l.take i)).length ≤ 60 := (by unfold AR7; rw [A6, I5]; omega);refine R5 ?_;refine A1 rfl (C7 rfl Q0 Y0 (A0 rfl) (A0 rfl) hx2 qz3) ?_;refine R2 ?_;intro b7;refine R5 ?_;refine A1 rfl (w_loadAP _ 0 rfl (A0 rfl) rfl Tryz.isAgg220 Tryz.sizeOf220 rfl rfl) ?_;refine R1 ?_;refine H0 (by' := 88) 1 rfl rfl rfl rfl Tryz.underlying223 Tryz.type220 rfl rfl rfl rfl rfl rfl (A0 rfl) (A0 rfl) rfl (by simp only [A6, S2]; omega) ?_;intro v22_1;refine R6 ?_;refine G8 i v (i + 1) (v22_1) ?_ ?_ (Le.trans (B9 [0, 0] rfl) (E8 1 (by (rw [Cx0 hx, V1]; rfl)) A5))
  ·exact qz8
  omega
 intro h15;have k15 := C2 h15;have hge : i = n := (by simp only [A6, I5] at k15; omega);subst hge;have hrl : (AR7 (l.take i)).length ≤ 60 := (by unfold AR7; rw [A6, I5]; omega);have hrs : ∀ r ∈ AR7 (l.take i), r.size ≤ 1100 := fun r hr => (by obtain ⟨e, he, rfl⟩ := n8.1 hr; exact hk.recs e (An6 he));refine R4 ?_;refine Aa4 (z8 [0] 25 rfl rfl (M1 (C3 (i := 0) rfl) G6) Ak5) ?_;refine A1 rfl (A9 rfl Tryz.call173 rfl (ofF_spec (AR7 (l.take i)) hrl hrs) L2) ?_;refine R4 ?_;intro b8;refine R9 ?_;exact E5 rfl (H8 (ys := _) 1 rfl rfl Y4 T0 rfl)
theorem AH7 (g : C8) (gg : GG g) : F6 187 [AV.agg g.cs] (AV.bool (AO5 g)) := by
 refine B8 Tryz.func187 rfl Tryz.ntmps187 rfl ?_;refine R3 ?_;intro b1;refine R9 ?_;refine A2 ?_ ?_
 ·intro h8;have k8 := C6 h8;have he : AO5 g = false := (by unfold AO5; rw [AM4 qz8]; rfl);rw [he];refine R5 ?_;exact E5 rfl (A7 rfl B7)
 intro h8;have k8 := C2 h8;have hl0 : 0 ≤ g.Lead := qz8;have hin := Az1 gg hl0;obtain ⟨L, hL⟩ : ∃ L, N8 g g.Lead = L := ⟨_, rfl⟩;have hxl := AB5 hin;have hgr := gg.reps _ (AF0 hin);rw [hL] at hxl hgr;have hsr := hgr.sure;have hl6 := hgr.len;obtain ⟨n, hn⟩ : ∃ n : Nat, L.Sure = (n : Int) := ⟨L.Sure.toNat, by omega⟩;have he : AO5 g = (L.Log.take n).any (fun e => e.Term == g.Term) := (by unfold AO5; rw [AB1 hl0, hL, hn]; rfl);rw [he];refine R7 ?_;refine A1 rfl (C7 rfl G1 K4 (A0 rfl) (A0 rfl) hxl qz8) ?_;refine R2 ?_;intro b3;refine R4 ?_;rw [show L.cs = [AV.bool L.Up, AV.list 8 (L.Log.map K1.cs), AV.int (n : Int)] by rw [← hn]; rfl];refine R5 ?_;refine A1 rfl (AN2 rfl Q0 Y0 (A0 rfl) (A0 rfl) qz8 (by (try simp only [A6]); omega)) ?_;refine R4 ?_;refine E9 [(1, _), (19, _), (20, _)] _ (fun (i : Nat) => i ≤ (L.Log.take n).length ∧ ((L.Log.take n).any fun e => e.Term == g.Term) = (((L.Log.take n).drop i).any fun e => e.Term == g.Term)) (fun i => []) (fun i => [(21, AV.int i)]) (fun i => (L.Log.take n).length - i) (0) ?_ (F5 A5) ?_
 ·exact ⟨D6 _, rfl⟩
 intro i hinv;refine R5 ?_;refine A2 ?_ ?_
 ·intro h22;have hlt : i < (L.Log.take n).length := BL4;have h9 : (L.Log.take n).length ≤ L.Log.length := Ba9;obtain ⟨x, hx⟩ := B3 hlt;refine R5 ?_;refine A1 rfl (C7 rfl Q0 Y0 (A0 rfl) (A0 rfl) hx qz3) ?_;refine R2 ?_;intro b5;refine R10 ?_;refine A2 ?_ ?_
  ·intro h29;rw [hinv.2, J2 hx, AX4, h29];refine R5 ?_;exact E5 rfl (A7 rfl B7)
  intro h29;refine R5 ?_;refine F7 i (i + 1) ?_ ?_ (Q1 1 A5)
  ·exact ⟨by omega, by rw [hinv.2, J2 hx, AX4, h29]; rfl⟩
  omega
 intro h22;have hge : (L.Log.take n).length ≤ i := BL4;rw [hinv.2, l6 hge];refine R6 ?_;exact E5 rfl (A7 rfl B7)
theorem BY9 (g : C8) (gg : GG g) : F6 126 [AV.agg g.cs] (AV.agg (Ag8 g).cs) := by
 have h0l : 0 < g.Reps.length ∧ g.Reps.length ≤ 5 := by have := gg.many; omega
 refine B8 Tryz.func126 rfl Tryz.ntmps126 rfl ?_;refine R3 ?_;intro b1;refine R1 ?_;intro b2;refine R14 ?_;refine K3 [(1, _), (2, _), (7, _), (8, _)] _ (fun (i : Nat) (p : Nat) => i ≤ g.Reps.length ∧ g.Reps[p]? = some ((g.Reps.take i).foldl (fun b r => if b.Sure < r.Sure then r else b) (N8 g 0))) (fun i p => []) (fun i p => [(3, AV.int p), (9, AV.int i)]) (fun i p => g.Reps.length - i) (0) (0) ?_ (F5 A5) ?_
 ·exact ⟨D6 _, AB5 (g := g) (r := 0) ⟨Int.le_refl _, by omega⟩⟩
 intro i p hinv;refine R5 ?_;refine A2 ?_ ?_
 ·intro h10;have k10 := C6 h10;have hlt : i < g.Reps.length := Aa1;obtain ⟨x, hx⟩ := B3 hlt;refine R6 ?_;refine A1 rfl (C7 rfl G1 K4 (A0 rfl) (A0 rfl) hx qz3) ?_;refine R2 ?_;intro b5;refine R10 ?_;refine C1 rfl rfl (C7 rfl G1 K4 (A0 rfl) (A0 rfl) hinv.2 qz3) ?_;refine R4 ?_;refine A2 ?_ ?_
  ·intro h22;have k22 := C6 h22;refine R8 ?_;refine G8 i p (i + 1) (i) ?_ ?_ (Q1 1 A5)
   ·exact ⟨by omega, by rw [CF5 hx, D1 k22]; exact hx⟩
   omega
  intro h22;have k22 := C2 h22;refine R5 ?_;refine G8 i p (i + 1) (p) ?_ ?_ (Q1 1 A5)
  ·exact ⟨by omega, by rw [CF5 hx, D4 k22]; exact hinv.2⟩
  omega
 intro h10;have k10 := C2 h10;have hge : g.Reps.length ≤ i := Aa1;have hb : g.Reps[p]? = some (Ar1 g) := (by have h9 := hinv.2; rw [U1 hge] at h9; exact h9);have hgr := gg.reps _ (Cg7 gg);refine R2 ?_;refine O7 13 E3 E3 rfl ?_;refine R3 ?_;refine C1 rfl rfl (C7 rfl G1 K4 (A0 rfl) (A0 rfl) hb qz3) ?_;refine R5 ?_;refine C1 rfl rfl (C7 rfl G1 K4 (A0 rfl) (A0 rfl) hb qz3) ?_;refine R2 ?_;refine C1 rfl rfl (A9 rfl Tryz.call154 rfl (Av9 (Ar1 g).Log (Ar1 g).Sure hgr.sure (By2 hgr)) E4) ?_;refine R4 ?_;exact E5 rfl (H8 (ys := _) 0 rfl rfl Y4 T0 rfl)
end Go.PQ
namespace Go.PQ
open Go.Proofs
open Go Go.AV Go.M
attribute [local irreducible] OpW OpA OpS AWP J3 K8 K0 OpE J6 H5 J9 Le Ev F8 L6 Z8 Int.tmod Int.tdiv IntKind.wrap Q7
def B1.ocs (t : B1) (y : Value × Value) : List AV := [AV.list 4 (t.Ops.map TOp.cs), AV.is y.1, AV.is y.2, AV.int t.Begin, AV.int t.End, AV.bool t.Yes, AV.int t.Time, AV.bool t.Dead, AV.bool t.Put, AV.bool t.Stopped]
def B1.ow (t : B1) (y : Value × Value) : List Go.AV.Own := [.arr y.1 80 3 (t.Got.map H4.cs), .arr y.2 3 1 (t.Terms.map fun n => [AV.int n])]
def B5.ocs (l : B5) (y : Value) : List AV := [AV.int l.Node, strs l.Keys, AV.is y, AV.int l.Time, AV.int l.Begin, AV.int l.End]
def B5.ow (l : B5) (y : Value) : List Go.AV.Own := [.arr y 80 3 (l.Got.map H4.cs)]
@[reducible] def nwZ (w : E0) (T : List (Value × Value)) (L : List Value) : List Go.AV.Own := nin B1.ow w.Txns T ++ nin B5.ow w.Looks L
theorem B1.lcM {own : List Go.AV.Own} (t : B1) (y : Value × Value) (h : ∀ o ∈ B1.ow t y, o ∈ own) : AD0 own (B1.ocs t y) t.cs := E2 J0 (E2 (M1 (h _ (C3 (i := 0) rfl)) G6) (E2 (M1 (h _ (C3 (i := 1) rfl)) G6) AE9))
theorem B5.lcM {own : List Go.AV.Own} (l : B5) (y : Value) (h : ∀ o ∈ B5.ow l y, o ∈ own) : AD0 own (B5.ocs l y) l.cs := E2 J0 (E2 J0 (E2 (M1 (h _ (C3 (i := 0) rfl)) G6) AE9))
structure WX where
  cl : Value
  gr : Value
  lo : Value
  pr : Value
  tx : Value
  lk : Value
def WB (b : Nat) (w : E0) (X : WX) (T : List (Value × Value)) (L : List Value) : List Go.AV.Own :=
  .box b 196 [AV.int w.Now, AV.int w.Count, AV.is X.cl, strs w.Cuts, AV.is X.gr, AV.is X.lo, AV.is X.pr, AV.is X.tx, AV.is X.lk] ::
  .arr X.cl 235 1 (w.Clocks.map u9.cs) :: .arr X.gr 168 3 (w.Groups.map C8.cs) :: .arr X.lo 200 1 (w.Locks.map fun l => [AV.list 3 (l.map J5.cs)]) ::
  .arr X.pr 3 1 (w.Promised.map fun n => [AV.int n]) :: .arr X.tx 132 10 (L7 B1.ocs w.Txns T) :: .arr X.lk 141 6 (L7 B5.ocs w.Looks L) ::
  (nin B1.ow w.Txns T ++ nin B5.ow w.Looks L)
theorem Al0 (b : Nat) (w : E0) (X : WX) (T : List (Value × Value)) (L : List Value) (g : Int) (gi : C8) (hx : w.Groups[g.toNat]? = some gi) (h0 : 0 ≤ g) (gg : GG gi) (hl : 0 ≤ gi.Lead) : M7 189 [AV.ptr b 0, AV.int g] (WB b w X T L) (fun _ : Unit => True) (fun _ => WB b w X T L) (fun _ => AV.agg (Y9 gi).cs) := by
 have hin := Az1 gg hl;have hgr := gg.reps _ (AF0 hin);have hgl := (F4.1 hx).1;refine C5 Tryz.func189 rfl Tryz.ntmps189 rfl ?_;refine R3 ?_;intro b4;refine R2 ?_;refine Y7 _ 21 (.pure 0 (.pure 1 (.pure 2 (.pure 3 (.pure 4 (.pure 5 (.pure 6 (.pure 7 (.pure 8 (.pure 9 (.pure 10 (.pure 11 (.pure 12 (.pure 13 (.pure 14 (.pure 15 (.pure 16 (.pure 17 (.pure 18 (.pure 19 (.e1 20 .nil))))))))))))))))))))) E3 E3 rfl (S8 8) ?_;refine R6 ?_;refine N5 rfl rfl rfl (fun ext => H6 3 rfl I0 D3 (A0 rfl) rfl (A0 rfl) qz8 AG1) ?_;refine N5 rfl rfl rfl (fun ext => L0 3 rfl U9 rfl AP9 (A0 rfl) rfl rfl qz5) ?_;refine N5 rfl rfl rfl (fun ext => M6 3 rfl (A0 rfl) rfl Tryz.isAgg166 qz5 rfl) ?_;refine R6 ?_;refine N5 rfl rfl rfl (fun ext => H6 3 rfl I0 D3 (A0 rfl) rfl (A0 rfl) qz8 AG1) ?_;refine N5 rfl rfl rfl (fun ext => L0 3 rfl U9 rfl D0 (A0 rfl) rfl rfl qz5) ?_;refine N5 rfl rfl rfl (fun ext => M6 3 rfl (A0 rfl) rfl P4 qz5 rfl) ?_;refine N5 rfl rfl rfl (fun ext => C7 rfl G1 K4 (A0 rfl) (A0 rfl) (AB5 hin) qz8) ?_;refine R2 ?_;refine L1 rfl rfl rfl (r6 8 <| j7 rfl Tryz.zeroValue205 rfl) (fun a _ => qz4) ?_;intro b5 _;refine R9 ?_;refine A1 rfl (A9 rfl Tryz.call154 rfl (Av9 (N8 gi gi.Lead).Log (N8 gi gi.Lead).Sure hgr.sure (By2 hgr)) E4) ?_;refine R3 ?_;exact I3 [1, 1, 1, 1, 1, 1, 1] 2 (nwZ w T L) [] () (trivial) rfl (show List.Perm (nwZ w T L) ((nwZ w T L) ++ []) from B6) B7 (N6 rfl (H8 (ys := _) 0 rfl rfl Y4 T0 rfl))
theorem AV6 (b : Nat) (w : E0) (X : WX) (T : List (Value × Value)) (L : List Value) (g : Int) (gi : C8) (hx : w.Groups[g.toNat]? = some gi) (h0 : 0 ≤ g) (gg : GG gi) (hl : 0 ≤ gi.Lead) : M7 166 [AV.ptr b 0, AV.int g] (WB b w X T L) (fun _ : Unit => True) (fun _ => WB b w X T L) (fun _ => AV.agg (W0 gi).cs) := by
 have hin := Az1 gg hl;have hgr := gg.reps _ (AF0 hin);have hgl := (F4.1 hx).1;have hf : F6 154 [AV.list 8 ((N8 gi gi.Lead).Log.map K1.cs), AV.int ((((N8 gi gi.Lead).Log.map K1.cs).length : Nat) : Int)] (AV.agg (W0 gi).cs) := by rw [A6]; exact Av9 _ _ ⟨by omega, by omega⟩ (By2 hgr)
 refine C5 Tryz.func166 rfl Tryz.ntmps166 rfl ?_;refine R3 ?_;intro b4;refine R2 ?_;refine Y7 _ 21 (.pure 0 (.pure 1 (.pure 2 (.pure 3 (.pure 4 (.pure 5 (.pure 6 (.pure 7 (.pure 8 (.pure 9 (.pure 10 (.pure 11 (.pure 12 (.pure 13 (.pure 14 (.pure 15 (.pure 16 (.pure 17 (.pure 18 (.pure 19 (.e1 20 .nil))))))))))))))))))))) E3 E3 rfl (S8 8) ?_;refine R6 ?_;refine N5 rfl rfl rfl (fun ext => H6 3 rfl I0 D3 (A0 rfl) rfl (A0 rfl) qz8 AG1) ?_;refine N5 rfl rfl rfl (fun ext => L0 3 rfl U9 rfl AP9 (A0 rfl) rfl rfl qz5) ?_;refine N5 rfl rfl rfl (fun ext => M6 3 rfl (A0 rfl) rfl Tryz.isAgg166 qz5 rfl) ?_;refine R6 ?_;refine N5 rfl rfl rfl (fun ext => H6 3 rfl I0 D3 (A0 rfl) rfl (A0 rfl) qz8 AG1) ?_;refine N5 rfl rfl rfl (fun ext => L0 3 rfl U9 rfl D0 (A0 rfl) rfl rfl qz5) ?_;refine N5 rfl rfl rfl (fun ext => M6 3 rfl (A0 rfl) rfl P4 qz5 rfl) ?_;refine N5 rfl rfl rfl (fun ext => C7 rfl G1 K4 (A0 rfl) (A0 rfl) (AB5 hin) qz8) ?_;refine R2 ?_;refine L1 rfl rfl rfl (r6 8 <| j7 rfl Tryz.zeroValue205 rfl) (fun a _ => qz4) ?_;intro b5 _;refine R10 ?_;refine A1 rfl (A9 rfl Tryz.call154 rfl (hf) E4) ?_;refine R3 ?_;exact I3 [1, 1, 1, 1, 1, 1, 1] 2 (nwZ w T L) [] () (trivial) rfl (show List.Perm (nwZ w T L) ((nwZ w T L) ++ []) from B6) B7 (N6 rfl (H8 (ys := _) 0 rfl rfl Y4 T0 rfl))
theorem BF1 (b : Nat) (w : E0) (X : WX) (T : List (Value × Value)) (L : List Value) (node : Int) (c : u9) (hx : w.Clocks[node.toNat]? = some c) (h0 : 0 ≤ node) (hc : AL1 c = true) (hn : AC1 w.Now = true) : M7 167 [AV.ptr b 0, AV.int node] (WB b w X T L) (fun _ : Unit => True) (fun _ => WB b w X T L) (fun _ => AV.agg (AF3 c w.Now).cs) := by
 have hcl := (F4.1 hx).1;refine C5 Tryz.func167 rfl Tryz.ntmps167 rfl ?_;refine R3 ?_;intro b4;refine R2 ?_;refine O7 14 E3 E3 rfl ?_;refine R6 ?_;refine C1 rfl rfl (H6 2 rfl X6 AQ0 (A0 rfl) rfl (A0 rfl) qz8 AG1) ?_;refine C1 rfl rfl (n2 2 rfl (A0 rfl) rfl Tryz.isAgg235 AQ0 qz5 D5) ?_;refine R5 ?_;refine C1 rfl rfl (A9 rfl Tryz.call178 rfl (Cx1 c w.Now hc hn) E4) ?_;refine R4 ?_;exact I3 [1, 1, 1, 1, 1, 1, 1] 1 (nwZ w T L) [] () (trivial) rfl (show List.Perm (nwZ w T L) ((nwZ w T L) ++ []) from B6) B7 (N6 rfl (H8 (ys := _) 0 rfl rfl Tryz.isAgg217 Tryz.sizeOf217 rfl))
theorem Aw0 (b : Nat) (w : E0) (X : WX) (T : List (Value × Value)) (L : List Value) (g : Int) (gi : C8) (c : u9) (hx : w.Groups[g.toNat]? = some gi) (h0 : 0 ≤ g ∧ g ≤ 3) (hl : 0 ≤ gi.Lead ∧ gi.Lead ≤ 5) (hcx : w.Clocks[(3 * g + gi.Lead).toNat]? = some c) (hc : AL1 c = true) (hn : AC1 w.Now = true) : M7 232 [AV.ptr b 0, AV.int g] (WB b w X T L) (fun _ : Unit => True) (fun _ => WB b w X T L) (fun _ => AV.agg (AF3 c w.Now).cs) := by
  have hgl := (F4.1 hx).1;refine C5 Tryz.func232 rfl Tryz.ntmps232 rfl ?_;refine R3 ?_;intro b4;refine R5 ?_;refine A1 rfl (At6 rfl I7 (A0 rfl) qz3) ?_;refine R6 ?_;refine A1 rfl (H6 3 rfl I0 D3 (A0 rfl) rfl (A0 rfl) qz8 AG1) ?_;refine A1 rfl (L0 3 rfl U9 rfl D0 (A0 rfl) rfl rfl qz5) ?_;refine A1 rfl (M6 3 rfl (A0 rfl) rfl P4 qz5 rfl) ?_;refine R1 ?_;refine A1 rfl (n3 [1, 1, 1, 1, 1, 1, 1] 1 (nwZ w T L) ([]) rfl Tryz.call167 rfl rfl (B6) (BF1 b w X T L (3 * g + gi.Lead) c hcx qz8 hc hn) E4) ?_;refine R3 ?_;exact I3 [1, 1, 1, 1, 1, 1, 1] 1 (nwZ w T L) [] () (trivial) rfl (show List.Perm (nwZ w T L) ((nwZ w T L) ++ []) from B6) B7 (N6 rfl (H8 (ys := _) 0 rfl rfl Tryz.isAgg217 Tryz.sizeOf217 rfl))
theorem CW4 (b : Nat) (w : E0) (X : WX) (T : List (Value × Value)) (L : List Value) (g t : Int) (k : Str) (write : Bool) (gi : C8) (hx : w.Groups[g.toNat]? = some gi) (h0 : 0 ≤ g) (gg : GG gi) (hl : 0 ≤ gi.Lead) : ∃ r : Bool, M7 233 [AV.ptr b 0, AV.int g, AV.int t, AV.str k, AV.bool write] (WB b w X T L) (fun _ : Unit => True) (fun _ => WB b w X T L) (fun _ => AV.bool r) := by
 obtain ⟨f, hf⟩ : ∃ f : F1 → Bool, f = fun h => (h.Txn != t) && (AP6 h.Writes k || (write && BH8 h.Reads k)) := ⟨_, rfl⟩;refine ⟨[Y9 gi, W0 gi].any fun s => s.Held.any f, ?_⟩;have hsl : ∀ s ∈ [Y9 gi, W0 gi], s.Held.length ≤ 12 := fun s hs => by
  rcases O5.1 hs with rfl | hs
  ·exact (Ah5 gg hl).hlen
  rw [V8.1 hs]; exact (AM0 gg hl).hlen
 refine C5 Tryz.func233 rfl Tryz.ntmps233 rfl ?_;refine R9 ?_;refine A1 rfl (n3 [0, 0, 0, 0, 0, 0, 0] 0 (nwZ w T L) ([]) rfl Tryz.call189 rfl rfl (B6) (Al0 b w X T L g gi hx h0 gg hl) E4) ?_;refine R2 ?_;refine A1 rfl (n3 [0, 0, 0, 0, 0, 0, 0] 0 (nwZ w T L) ([]) rfl Tryz.call166 rfl rfl (B6) (AV6 b w X T L g gi hx h0 gg hl) E4) ?_;refine R5 ?_;refine E9 [(2, _), (3, _), (4, _), (21, _), (22, _)] _ (fun (i : Nat) => i ≤ 2 ∧ ([Y9 gi, W0 gi].any fun s => s.Held.any f) = (([Y9 gi, W0 gi].drop i).any fun s => s.Held.any f)) (fun i => []) (fun i => [(23, AV.int i)]) (fun i => 2 - i) (0) ?_ (F5 A5) ?_
 ·exact ⟨D6 _, rfl⟩
 intro i hinv;have hinv0 := hinv;refine R5 ?_;refine A2 ?_ ?_
 ·intro h24;have k24 := C6 h24;have hlt : i < 2 := (by simp only [S2] at k24; omega);obtain ⟨s, hs⟩ := B3 (show i < [Y9 gi, W0 gi].length from hlt);have hs12 := hsl s (C3 hs);have hs2 : ([Y9 gi, W0 gi].map H2.cs)[i]? = some s.cs := P0 hs;refine R5 ?_;refine A1 rfl (AW0 rfl Tryz.underlying129 T0 (A0 rfl) (A0 rfl) qz8 (by rw [AC6]; exact hs2)) ?_;refine R2 ?_;intro b12;refine R10 ?_;refine E9 [(2, _), (3, _), (4, _), (12, _), (21, _), (22, _), (23, _), (24, _), (25, _), (26, _), (27, _), (28, _), (29, _)] _ (fun (j : Nat) => j ≤ s.Held.length ∧ s.Held.any f = (s.Held.drop j).any f) (fun j => []) (fun j => [(30, AV.int j)]) (fun j => s.Held.length - j) (0) ?_ (F5 A5) ?_
  ·exact ⟨D6 _, rfl⟩
  intro j hinv;have hinv1 := hinv;refine R5 ?_;refine A2 ?_ ?_
  ·intro h31;have k31 := C6 h31;have hlt1 : j < s.Held.length := (by simpa using h31);obtain ⟨y, hh⟩ := B3 hlt1;refine R5 ?_;refine A1 rfl (C7 rfl K9 S3 (A0 rfl) (A0 rfl) hh qz3) ?_;refine R2 ?_;intro b14;refine R12 ?_;refine N4 rfl (fun hc => A9 rfl Tryz.call203 rfl (Ax6 _ _) (A3 (A8 rfl hc) (A3 (A8 rfl hc) B2))) ?_;refine R6 ?_;refine AE8 rfl rfl (i7 rfl rfl rfl) (fun hc => A9 rfl Tryz.call238 rfl (Bp8 _ _) (A3 (A8 rfl hc) (A3 (A8 rfl hc) B2))) ?_;refine R4 ?_;refine A2 ?_ ?_
   ·intro h52;have hyes : ([Y9 gi, W0 gi].any fun s => s.Held.any f) = true := List.any_eq_true.2 ⟨s, C3 hs, List.any_eq_true.2 ⟨y, C3 hh, by rw [hf]; exact h52⟩⟩;rw [hyes];refine R5 ?_;exact I3 [2, 2, 2, 2, 2, 2, 2] 2 (nwZ w T L) [] () (trivial) rfl (show List.Perm (nwZ w T L) ((nwZ w T L) ++ []) from B6) B7 K5
   intro h52;refine R5 ?_;refine F7 j (j + 1) ?_ ?_ (Q1 1 A5)
   ·exact ⟨by omega, by rw [hinv1.2, J2 hh, AX4, show f y = false by (rw [hf]; exact h52)]; rfl⟩
   omega
  intro h31;have k31 := C2 h31;have hge1 : s.Held.length ≤ j := (by simpa using h31);refine R5 ?_;refine F7 i (i + 1) ?_ ?_ (Q1 1 A5)
  ·exact ⟨by omega, by rw [hinv0.2, J2 hs, AX4, hinv1.2, l6 hge1]; rfl⟩
  omega
 intro h24;have k24 := C2 h24;have hge : 2 ≤ i := (by simp only [S2] at k24; omega);rw [hinv.2, l6 (show [Y9 gi, W0 gi].length ≤ i from hge)];refine R6 ?_;exact I3 [0, 0, 0, 0, 0, 0, 0] 0 (nwZ w T L) [] () (trivial) rfl (show List.Perm (nwZ w T L) ((nwZ w T L) ++ []) from B6) B7 K5
theorem Ad9 (b : Nat) (w : E0) (X : WX) (T : List (Value × Value)) (L : List Value) (g : Int) (gi : C8) (hx : w.Groups[g.toNat]? = some gi) (h0 : 0 ≤ g) (hg : WG gi) : M7 170 [AV.ptr b 0, AV.int g] (WB b w X T L) (fun v : C8 => WG v) (fun v => WB b (Y5 w g.toNat v) X T L) (fun _ => AV.tup []) := by
 have hgl := (F4.1 hx).1;refine C5 Tryz.func170 rfl Tryz.ntmps170 rfl ?_;refine R6 ?_;refine AWP.le (B9 [2] rfl) ?_;refine K3 [(0, _), (1, _)] _ (fun (r : Nat) (v : C8) => r ≤ 3 ∧ WG v) (fun r v => [.arr X.gr 168 3 ((w.Groups.set g.toNat v).map C8.cs)]) (fun r v => [(4, AV.int r)]) (fun r v => 3 - r) (0) (gi) ?_ (I6 (by (rw [BK4 hx]; rfl)) A5) ?_
 ·exact ⟨D6 _, hg⟩
 intro r v hinv;have hvs := BK1 hinv.2.good;refine R6 ?_;refine A2 ?_ ?_
 ·intro h10;have k10 := C6 h10;refine R11 ?_;refine A1 rfl (H6 0 rfl I0 D3 (A0 rfl) rfl (A0 rfl) qz8 AG2) ?_;refine A1 rfl (n2 0 rfl (A0 rfl) rfl M3 D3 qz73 D5) ?_;refine R1 ?_;refine A1 rfl (A9 rfl Tryz.call181 rfl (Cc5 v r qz8) E4) ?_;refine R4 ?_;intro b5;refine R7 ?_;refine A2 ?_ ?_
  ·intro h26;refine O7 8 E3 E3 rfl ?_;refine R7 ?_;refine C1 rfl rfl (H6 1 rfl I0 D3 (A0 rfl) rfl (A0 rfl) qz8 AG2) ?_;refine R1 ?_;refine m4 1 rfl rfl rfl (A0 rfl) (A0 rfl) (m3 _) rfl D3 rfl AG2 ?_;refine R6 ?_;refine G8 r v (r + 1) ((AI1 v r).1) ?_ ?_ (Le.trans (B9 [0, 0] rfl) (E8 1 (by first | rfl | (rw [← AF6, BR4]; rfl)) A5))
   ·exact ⟨by omega, wg_copy hinv.2 h26⟩
   omega
  intro h26;refine R6 ?_;refine G8 r v (r + 1) (v) ?_ ?_ (Le.trans (B9 [0, 0] rfl) (E8 1 (by first | rfl | (rw [← AF6, BR4]; rfl)) A5))
  ·exact ⟨by omega, hinv.2⟩
  omega
 intro h10;have k10 := C2 h10;refine R9 ?_;refine A1 rfl (H6 0 rfl I0 D3 (A0 rfl) rfl (A0 rfl) qz8 AG2) ?_;refine A1 rfl (n2 0 rfl (A0 rfl) rfl M3 D3 qz73 D5) ?_;refine A1 rfl (A9 rfl Tryz.call182 rfl (CV2 v qz8) L2) ?_;refine R4 ?_;intro b7;refine R7 ?_;refine A2 ?_ ?_
 ·intro h47;refine O7 8 E3 E3 rfl ?_;refine R7 ?_;refine C1 rfl rfl (H6 1 rfl I0 D3 (A0 rfl) rfl (A0 rfl) qz8 AG2) ?_;refine R1 ?_;refine m4 1 rfl rfl rfl (A0 rfl) (A0 rfl) (m3 _) rfl D3 rfl AG2 ?_;refine R1 ?_;exact I3 [2, 2, 1, 1, 1, 1, 1] 1 (nwZ w T L) [] (((AN0 v).1)) ((by first | exact wg_adv hinv.2 h47 | exact hinv.2)) rfl (show List.Perm (nwZ w T L) ((nwZ w T L) ++ []) from B6) (by first | rfl | (unfold WB Y5; dsimp only; rw [← AF6, BR4]; rfl)) (q8 rfl D5 l9)
 intro h47;refine R1 ?_;exact I3 [2, 2, 1, 1, 1, 1, 1] 1 (nwZ w T L) [] (v) ((by first | exact wg_adv hinv.2 h47 | exact hinv.2)) rfl (show List.Perm (nwZ w T L) ((nwZ w T L) ++ []) from B6) (by first | rfl | (unfold WB Y5; dsimp only; rw [← AF6, BR4]; rfl)) (q8 rfl D5 l9)
theorem Ae0 (b : Nat) (w : E0) (X : WX) (T : List (Value × Value)) (L : List Value) (g : Int) (r : O0) (gi : C8) (hx : w.Groups[g.toNat]? = some gi) (h0 : 0 ≤ g) (hg : WG gi) (hr : r.size ≤ 1000) (hk : Bt7 r) : M7 164 [AV.ptr b 0, AV.int g, AV.agg r.cs] (WB b w X T L) (fun v : C8 × Bool => WG v.1) (fun v => WB b (Y5 w g.toNat v.1) X T L) (fun v => AV.bool v.2) := by
 have hgl := (F4.1 hx).1;have hvs := BK1 hg.good;refine C5 Tryz.func164 rfl Tryz.ntmps164 rfl ?_;refine R3 ?_;intro b5;refine R3 ?_;refine Y7 _ 15 (.pure 0 (.pure 1 (.pure 2 (.pure 3 (.pure 4 (.pure 5 (.pure 6 (.pure 7 (.pure 8 (.pure 9 (.pure 10 (.pure 11 (.pure 12 (.e1 13 (.e1 14 .nil))))))))))))))) E3 E3 rfl (S8 8) ?_;refine R6 ?_;refine N5 rfl rfl rfl (fun ext => H6 3 rfl I0 D3 (A0 rfl) rfl (A0 rfl) qz8 AG2) ?_;refine N5 rfl rfl rfl (fun ext => n2 3 rfl (A0 rfl) rfl M3 D3 qz5 D5) ?_;refine R1 ?_;refine N5 rfl rfl rfl (fun ext => A9 rfl Tryz.call177 rfl (CJ2 gi r qz8 qz8) E4) ?_;refine R4 ?_;refine L1 rfl rfl rfl (r6 8 <| j7 rfl Tryz.zeroValue168 rfl) (fun a _ => qz4) ?_;intro b7 _;refine R1 ?_;refine AU1 rfl rfl rfl (w6 8 rfl rfl (A0 rfl) (A0 rfl) (m3 _) rfl D3 rfl) (fun a _ => qz4) ?_;intro _ _;refine R9 ?_;refine A2 ?_ ?_
 ·intro h23;rw [show (AE5 gi r).2 = false by simpa using h23] at *;refine R5 ?_;exact I3 [1, 1, 1, 1, 1, 1, 1] 2 (nwZ w T L) [] ((gi, false)) ((by first | exact hg | exact ok34)) rfl (show List.Perm (nwZ w T L) ((nwZ w T L) ++ []) from B6) qz154 K5
 intro h23;have hpo : (AE5 gi r).2 = true := Aw5;have hld : 0 ≤ gi.Lead := Cv7 hpo;have hwp := wg_put hg hld hk hpo;have hsp := Ad9 b (Y5 w g.toNat (AE5 gi r).1) X T L g (AE5 gi r).1 (B0 hx) h0 hwp;refine R2 ?_;refine O7 8 E3 E3 rfl ?_;refine R7 ?_;refine C1 rfl rfl (H6 3 rfl I0 D3 (A0 rfl) rfl (A0 rfl) qz8 AG2) ?_;refine R1 ?_;refine m4 3 rfl rfl rfl (A0 rfl) (A0 rfl) (m3 _) rfl D3 rfl AG2 ?_;refine R2 ?_;simp only [← AF6];refine R3 ?_;refine J7 [1, 1, 1, 1, 1, 1, 1] 2 7 (nwZ w T L) ([]) (fun zz => nwZ w T L) rfl rfl rfl rfl Tryz.call170 rfl rfl (show List.Perm (nwZ w T L) ((nwZ w T L) ++ ([])) from B6) (hsp) E4 (fun a => L9) ?_;intro x34 ok34;refine R6 ?_;exact I3 [0, 0, 0, 0, 0, 0, 0] 2 (nwZ w T L) [] ((x34, true)) ((by first | exact hg | exact ok34)) rfl (show List.Perm (nwZ w T L) ((nwZ w T L) ++ []) from B6) qz154 K5
theorem agg_w {xs ys : List AV} (hl : xs.length = ys.length) (h : ∀ (i : Nat) (x y : AV), xs[i]? = some x → ys[i]? = some y → ∀ R v, x.den R v → y.den R v) (R : G4) (v : Value) (hv : (AV.agg xs).den R v) : (AV.agg ys).den R v := by
  obtain ⟨vs, e, hl2, hd⟩ := hv;refine ⟨vs, e, hl2.trans hl, fun i u y hu hy => ?_⟩;have hi : i < xs.length := by rw [hl]; exact (F4.1 hy).1
  obtain ⟨h1, h2⟩ := hd i u _ hu (O1 hi);exact ⟨h i _ y (O1 hi) hy _ _ h1, h2⟩
theorem Al1 {k t tm l : Int} {y : Bool} (R : G4) (v : Value) (h : (AV.agg [AV.int k, AV.int t, AV.int tm, AV.int l, AV.nils, AV.nils, AV.bool y]).den R v) : (AV.agg (O0.cs ⟨k, t, tm, l, [], [], y⟩)).den R v := by
  refine agg_w (xs := [AV.int k, AV.int t, AV.int tm, AV.int l, AV.nils, AV.nils, AV.bool y]) (ys := O0.cs ⟨k, t, tm, l, [], [], y⟩) rfl (fun i x z hx hz => ?_) R v h;rcases i with _ | _ | _ | _ | _ | _ | _ | i
  all_goals first
    | (injection hx with hx; injection hz with hz; subst hx; subst hz; first | exact fun _ _ h => h | exact CA2)
    | (cases hx)
theorem third {node : Int} {n : Nat} (hn : 0 ≤ node ∧ node < 3 * (n : Int)) {q m : Int} (hq : Int.tdiv node 3 = q) (hm : Int.tmod node 3 = m) : 0 ≤ q ∧ q < n ∧ 0 ≤ m ∧ m < 3 ∧ node = 3 * q + m := by
  rw [Int.tdiv_eq_ediv_of_nonneg hn.1] at hq;rw [Int.tmod_eq_emod_of_nonneg hn.1] at hm;omega
theorem CF6 (b : Nat) (w : E0) (X : WX) (T : List (Value × Value)) (L : List Value) (node : Int) (hw : WI w) (hn : 0 ≤ node ∧ node < 3 * (w.Groups.length : Int)) : M7 150 [AV.ptr b 0, AV.int node] (WB b w X T L) (fun v : E0 × Bool => WI v.1 ∧ WS w v.1 ∧ v.1.Txns = w.Txns ∧ v.1.Looks = w.Looks) (fun v => WB b v.1 X T L) (fun v => AV.bool v.2) := by
 obtain ⟨q, hq⟩ : ∃ q : Int, Int.tdiv node 3 = q := ⟨_, rfl⟩;obtain ⟨m, hm⟩ : ∃ m : Int, Int.tmod node 3 = m := ⟨_, rfl⟩;obtain ⟨h0, hql, hm0, hm3, hnq⟩ := third hn hq hm;obtain ⟨gi, hx⟩ := B3 (show q.toNat < w.Groups.length by omega);have hgi := hw.groups gi (C3 hx);have hvs := BK1 hgi.good;have hng := hw.n;have hgl := (F4.1 hx).1;obtain ⟨lo, hlx⟩ := B3 (show q.toNat < w.Locks.length by rw [hw.locks.1]; omega);obtain ⟨pr, hpx⟩ := B3 (show q.toNat < w.Promised.length by rw [hw.promised.1]; omega);have hll := (F4.1 hlx).1;have hpl := (F4.1 hpx).1;obtain ⟨c, hcx⟩ := B3 (show node.toNat < w.Clocks.length by rw [hw.clocks.1]; omega);have hcg : AL1 c = true := by
  have h9 := hw.clocks.2 c (C3 hcx);unfold AL1 within; rw [F0, I4, I4]; exact h9
 have hnow : M.AC1 w.Now = true := by unfold M.AC1 within; rw [F0, I4, I4]; exact hw.now
 have hsp9 : -1000000 ≤ (AF3 c w.Now).High ∧ (AF3 c w.Now).High ≤ 1000000 := by
  have h9 := hw.clocks.2 c (C3 hcx);have h8 := hw.now;show -1000000 ≤ w.Now + c.Off + 5 ∧ w.Now + c.Off + 5 ≤ 1000000
  omega
 have hwq : IntKind.i64.wrap q = q := Am1 qz8;refine C5 Tryz.func150 rfl Tryz.ntmps150 rfl ?_;refine R7 ?_;refine A1 rfl (w_quo rfl (A0 rfl) I7 qz3) ?_;refine R3 ?_;simp only [hq, hwq];refine R7 ?_;refine A1 rfl (H6 2 rfl I0 D3 (A0 rfl) rfl (A0 rfl) qz8 AG2) ?_;refine A1 rfl (n2 2 rfl (A0 rfl) rfl M3 D3 qz5 D5) ?_;refine R1 ?_;refine A1 rfl (BM6 rfl (A0 rfl) I7 qz3) ?_;simp only [hm];refine A1 rfl (A9 rfl Tryz.call163 rfl (CJ0 gi m qz8) E4) ?_;refine R4 ?_;intro b6;refine R9 ?_;refine A2 ?_ ?_
 ·intro h25;have hpo : (X8 gi m).2 = false := (by simpa using h25);refine R5 ?_;exact I3 [1, 1, 1, 1, 1, 1, 1] 1 (nwZ w T L) [] ((w, false)) (qz126) rfl (show List.Perm (nwZ w T L) ((nwZ w T L) ++ []) from B6) B7 K5
 intro h25;have hpo : (X8 gi m).2 = true := (by simpa using h25);have hwg := wg_elect hgi hpo;have heg := Bo8 hpo;have hld : 0 ≤ (X8 gi m).1.Lead := (by rw [heg.2.2.1]; exact hm0);have hgg2 : (w.Groups.set q.toNat (X8 gi m).1)[q.toNat]? = some (X8 gi m).1 := B0 hx;have h1 := AB6 hw (i := q.toNat) hwg;have h2 := CR7 h1.1 (i := q.toNat) (l := []) ⟨D6 _, fun x hx => (by cases hx)⟩;have h3 := Cg6 h2.1 (i := q.toNat) (p := 0) ⟨Int.le_refl 0, D5⟩;have hfk := AV6 b (Ab0 (Ac9 (Y5 w q.toNat (X8 gi m).1) q.toNat []) q.toNat 0) X T L q _ hgg2 h0 hwg.good hld;have hsk := BF1 b (Ab0 (Ac9 (Y5 w q.toNat (X8 gi m).1) q.toNat []) q.toNat 0) X T L node c hcx hn.1 hcg hnow;have hfl := (AM0 hwg.good hld).floor;have hpk := Ae0 b (Ab0 (Ac9 (Y5 w q.toNat (X8 gi m).1) q.toNat []) q.toNat 0) X T L q ⟨4, 0, m8 1 (m8 ((W0 (X8 gi m).1).Floor + 1) ((AF3 c w.Now).High + 10)), 0, [], [], false⟩ _ hgg2 h0 hwg (show (0 : Nat) ≤ 1000 from by decide) (fun w9 hw9 => by cases hw9);refine R2 ?_;refine O7 8 E3 E3 rfl ?_;refine R7 ?_;refine C1 rfl rfl (H6 3 rfl I0 D3 (A0 rfl) rfl (A0 rfl) qz8 AG2) ?_;refine R1 ?_;refine m4 3 rfl rfl rfl (A0 rfl) (A0 rfl) (m3 _) rfl D3 rfl AG2 ?_;refine R9 ?_;refine A1 rfl (H6 4 rfl U8 u7 (A0 rfl) rfl (A0 rfl) qz8 AG2) ?_;refine m4 4 rfl rfl rfl (A0 rfl) (O2 (sz := 3)) (n1 _ _) rfl u7 rfl AG2 ?_;refine R9 ?_;refine A1 rfl (H6 5 rfl C9 D0 (A0 rfl) rfl (A0 rfl) qz8 AG2) ?_;refine m4 5 rfl rfl rfl (A0 rfl) I7 (Z2 _ _) rfl D0 rfl AG2 ?_;refine R2 ?_;refine K2 (show _ = Go.AV.Own.box b6 168 (X8 gi m).1.cs :: WB b (Ab0 (Ac9 (Y5 w q.toNat (X8 gi m).1) q.toNat []) q.toNat 0) X T L from (by unfold WB Ab0 Ac9 Y5; dsimp only; rw [AF6, AF6, AF6]; rfl)) ?_;refine R5 ?_;refine A1 rfl (n3 [1, 1, 1, 1, 1, 1, 1] 1 (nwZ w T L) ([]) rfl Tryz.call166 rfl rfl (B6) (hfk) E4) ?_;refine R2 ?_;refine A1 rfl (n3 [1, 1, 1, 1, 1, 1, 1] 1 (nwZ w T L) ([]) rfl Tryz.call167 rfl rfl (B6) (hsk) E4) ?_;refine A1 rfl (A9 rfl Tryz.call165 rfl (CJ7 (W0 (X8 gi m).1) (AF3 c w.Now) qz8 qz8) E4) ?_;refine R1 ?_;refine J7 [1, 1, 1, 1, 1, 1, 1] 1 7 (nwZ w T L) ([]) (fun zz => nwZ w T L) rfl rfl rfl rfl Tryz.call164 rfl rfl (show List.Perm (nwZ w T L) ((nwZ w T L) ++ ([])) from B6) (hpk) (A3 (A0 rfl) (A3 (A0 rfl) (A3 (AQ5 (A0 rfl) Al1) B2))) (fun a => L9) ?_;intro x58 ok58;refine R6 ?_;exact I3 [0, 0, 0, 0, 0, 0, 0] 1 (nwZ w T L) [] ((Y5 (Ab0 (Ac9 (Y5 w q.toNat (X8 gi m).1) q.toNat []) q.toNat 0) q.toNat x58.1, true)) (qz126) rfl (show List.Perm (nwZ w T L) ((nwZ w T L) ++ []) from B6) B7 K5
theorem part_ok {l : List J5} (h : AQ2 l) (t : Int) (of : Bool) : AQ2 (AV1 l t of) := by
  unfold AV1;exact ⟨L4 (List.length_filter_le _ _) h.1, fun x hx => h.2 x (List.mem_filter.1 hx).1⟩
theorem BN5 {α : Type} {g : α → AV} : ∀ {v : List α}, (v.map fun l => [g l]).flatten = v.map g
  | [] => rfl
  | x :: v => by rw [T3, AT1, BN5, T3]; rfl
theorem flat1 {α : Type} {g : α → AV} {v : List α} {i : Nat} {x : α} (h : v[i]? = some x) : (v.map fun l => [g l]).flatten[((i : Int)).toNat * 1]? = some (g x) := by
  rw [BN5, AC6, Nat.mul_one, Y6, h]; rfl
def AR8 (w : E0) (v : List (List J5)) : E0 := { w with Locks := v }
theorem BQ7 (b : Nat) (w : E0) (X : WX) (T : List (Value × Value)) (L : List Value) (t : Int) (hw : WI w) : M7 185 [AV.ptr b 0, AV.int t] (WB b w X T L) (fun v : List (List J5) => v.length = w.Locks.length ∧ ∀ l ∈ v, AQ2 l) (fun v => WB b (AR8 w v) X T L) (fun _ => AV.tup []) := by
 have hng := hw.n;have hlk := hw.locks;refine C5 Tryz.func185 rfl Tryz.ntmps185 rfl ?_;refine R11 ?_;refine AWP.le (B9 [3] rfl) ?_;refine K3 [(0, _), (1, _), (10, _)] _ (fun (i : Nat) (v : List (List J5)) => i ≤ w.Locks.length ∧ v.length = w.Locks.length ∧ ∀ l ∈ v, AQ2 l) (fun i v => [.arr X.lo 200 1 (v.map fun l => [AV.list 3 (l.map J5.cs)])]) (fun i v => [(11, AV.int i)]) (fun i v => w.Locks.length - i) (0) (w.Locks) ?_ (I6 B7 A5) ?_
 ·exact ⟨D6 _, rfl, hlk.2⟩
 intro i v hinv;refine R5 ?_;refine A2 ?_ ?_
 ·intro h12;have k12 := C6 h12;have hlt : i < w.Locks.length := (by simpa using h12);obtain ⟨l, hlx⟩ := B3 (show i < v.length by rw [hinv.2.1]; exact hlt);have hlo := hinv.2.2 l (C3 hlx);have hl60 := hlo.1;refine R8 ?_;refine O7 17 E3 E3 rfl ?_;refine R12 ?_;refine C1 rfl rfl (H6 0 rfl U8 u7 (A0 rfl) rfl (A0 rfl) qz8 AG2) ?_;refine C1 rfl rfl (AW1 0 rfl (A0 rfl) rfl Tryz.isAgg200 (flat1 (g := fun l => AV.list 3 (l.map J5.cs)) hlx)) ?_;refine R1 ?_;refine C1 rfl rfl (A9 rfl Tryz.call202 rfl (Cd5 l t false qz8) CN6) ?_;refine C1 rfl rfl (H6 0 rfl U8 u7 (A0 rfl) rfl (A0 rfl) qz8 AG2) ?_;refine R1 ?_;refine m4 0 rfl rfl rfl (A0 rfl) (A0 rfl) (n1 _ _) rfl u7 rfl AG2 ?_;refine R5 ?_;refine G8 i v (i + 1) (v.set i (AV1 l t false)) ?_ ?_ (Le.trans (B9 [0] rfl) (I6 (by (rw [AF6]; rfl)) A5))
  ·exact ⟨by omega, by rw [V4]; exact hinv.2.1, AN8 hinv.2.2 (part_ok hlo t false)⟩
  omega
 intro h12;have k12 := C2 h12;refine R1 ?_;exact I3 [1, 1, 1, 0, 0, 0, 0] 0 (nwZ w T L) [] (v) (hinv.2) rfl (show List.Perm (nwZ w T L) ((nwZ w T L) ++ []) from B6) B7 (q8 rfl D5 l9)
theorem AJ4 {T X : Type} {ocs : T → X → List AV} {l : List T} {xs : List X} {i : Nat} {p p' : T} {x : X} (hp : l[i]? = some p) (hx : xs[i]? = some x) : L7 ocs (l.set i p') xs = (L7 ocs l xs).set i (ocs p' x) := by
  rw [← Cj9 (p' := p') hp hx, AS1 hp hx];have ht := AQ7 (ocs := ocs) hp hx;rw [List.set_append_right _ _ qz8, ht, Nat.sub_self, Aw6]
theorem Ac5 {T X : Type} {ow : T → X → List Go.AV.Own} : ∀ {l : List T} {xs : List X} {i : Nat} {p p' : T}, l[i]? = some p → (∀ x, ow p' x = ow p x) → nin ow (l.set i p') xs = nin ow l xs
  | [], _, _, _, _, h, _ => by simp at h
  | q :: l, [], i, _, _, h, _ => by cases i <;> rfl
  | q :: l, y :: xs, 0, p, p', h, he => by
    simp at h; subst h;show ow p' y ++ nin ow l xs = ow q y ++ nin ow l xs
    rw [he]
  | q :: l, y :: xs, i + 1, p, p', h, he => by
    show ow q y ++ nin ow (l.set i p') xs = ow q y ++ nin ow l xs
    rw [Ac5 (l := l) Al3 he]
def Be2 (t : B1) : B1 := { t with Dead := true }
def Be3 (w : E0) (t : Int) : E0 := match w.Txns[(t - 1).toNat]? with
  | some x => AH9 w (t - 1).toNat (Be2 x)
  | none => w
theorem died_wi {w : E0} (hw : WI w) (t : Int) : WF w (Be3 w t) := by
  unfold Be3;split
  · rename_i x hx
    have h := hw.txns.2 x (C3 hx);have h2 := Au4 hw (i := (t - 1).toNat) (t := Be2 x) ⟨h.terms, h.ops, h.got, h.span⟩;exact ⟨h2.1, h2.2, rfl, rfl⟩
  · exact WF.refl hw
theorem As4 {w : E0} (hw : WI w) {v : List (List J5)} (hv : v.length = w.Locks.length ∧ ∀ l ∈ v, AQ2 l) : WI (AR8 w v) ∧ WS w (AR8 w v) :=
  ⟨⟨hw.n, hw.clocks, hw.cuts, ⟨hv.1.trans hw.locks.1, hv.2⟩, hw.promised, hw.groups, hw.txns, hw.looks, hw.now, hw.count⟩, ⟨rfl, rfl, rfl, rfl, rfl, rfl⟩⟩
theorem As5 {w : E0} (hw : WI w) {v : List (List J5)} (hv : v.length = w.Locks.length ∧ ∀ l ∈ v, AQ2 l) : WF w (AR8 w v) := ⟨(As4 hw hv).1, (As4 hw hv).2, rfl, rfl⟩
theorem Az2 (b : Nat) (w : E0) (X : WX) (T : List (Value × Value)) (L : List Value) (t : Int) (hw : WI w) (hT : T.length = w.Txns.length) (ht : 1 ≤ t ∧ t ≤ 1000000) : M7 199 [AV.ptr b 0, AV.int t] (WB b w X T L) (fun v : E0 => WF w v) (fun v => WB b v X T L) (fun _ => AV.tup []) := by
 have hd := died_wi hw t;have hfr := BQ7 b (Be3 w t) X T L t hd.wi;obtain ⟨W', hW⟩ : ∃ W' : E0, Be3 w t = W' := ⟨_, rfl⟩;rw [hW] at hfr hd;refine C5 Tryz.func199 rfl Tryz.ntmps199 rfl ?_;refine R12 ?_;refine A2 ?_ ?_
 ·intro h11;have k11 := C6 h11;have hlt : (t - 1).toNat < w.Txns.length := (by simp only [W7 hT] at k11; omega);obtain ⟨tx, htx⟩ := B3 hlt;obtain ⟨y, hy⟩ := B3 (show (t - 1).toNat < T.length by omega);have hW1 : W' = AH9 w (t - 1).toNat (Be2 tx) := (by rw [← hW]; unfold Be3; rw [htx]);refine R8 ?_;refine A1 rfl (H6 5 rfl M5 S4 (A0 rfl) rfl (A0 rfl) qz8 (by rw [W7 hT]; omega)) ?_;refine A1 rfl (L0 5 rfl I8 rfl S0 (A0 rfl) rfl rfl qz2) ?_;refine X3 5 rfl rfl rfl (A0 rfl) AV9 (AT6 _) rfl S0 qz2 rfl ?_;refine R1 ?_;refine K2 (show _ = WB b W' X T L from qz123) ?_;refine R3 ?_;refine J7 [0, 0, 0, 0, 0, 0, 0] 0 7 (nin B1.ow W'.Txns T ++ nin B5.ow W'.Looks L) ([]) (fun zz => nin B1.ow W'.Txns T ++ nin B5.ow W'.Looks L) rfl rfl rfl rfl Tryz.call185 rfl rfl (show List.Perm (nin B1.ow W'.Txns T ++ nin B5.ow W'.Looks L) ((nin B1.ow W'.Txns T ++ nin B5.ow W'.Looks L) ++ ([])) from B6) (hfr) E4 (fun a => L9) ?_;intro x23 ok23;refine R1 ?_;exact I3 [0, 0, 0, 0, 0, 0, 0] 0 (nin B1.ow W'.Txns T ++ nin B5.ow W'.Looks L) [] ((AR8 W' x23)) (hd.trans (As5 hd.wi ok23)) rfl (show List.Perm (nin B1.ow W'.Txns T ++ nin B5.ow W'.Looks L) ((nin B1.ow W'.Txns T ++ nin B5.ow W'.Looks L) ++ []) from B6) B7 (q8 rfl D5 l9)
 intro h11;have k11 := C2 h11;have hW1 : W' = w := (by rw [← hW]; unfold Be3; rw [Ah7 (by simp only [W7 hT] at k11; omega)]);refine R1 ?_;refine K2 (show _ = WB b W' X T L from qz123) ?_;refine R3 ?_;refine J7 [0, 0, 0, 0, 0, 0, 0] 0 7 (nin B1.ow W'.Txns T ++ nin B5.ow W'.Looks L) ([]) (fun zz => nin B1.ow W'.Txns T ++ nin B5.ow W'.Looks L) rfl rfl rfl rfl Tryz.call185 rfl rfl (show List.Perm (nin B1.ow W'.Txns T ++ nin B5.ow W'.Looks L) ((nin B1.ow W'.Txns T ++ nin B5.ow W'.Looks L) ++ ([])) from B6) (hfr) E4 (fun a => L9) ?_;intro x23 ok23;refine R1 ?_;exact I3 [0, 0, 0, 0, 0, 0, 0] 0 (nin B1.ow W'.Txns T ++ nin B5.ow W'.Looks L) [] ((AR8 W' x23)) (hd.trans (As5 hd.wi ok23)) rfl (show List.Perm (nin B1.ow W'.Txns T ++ nin B5.ow W'.Looks L) ((nin B1.ow W'.Txns T ++ nin B5.ow W'.Looks L) ++ []) from B6) B7 (q8 rfl D5 l9)
theorem BZ0 {α : Type} {g : α → AV} {v : List α} {k : Int} {x : α} (h : v[k.toNat]? = some x) : (v.map fun l => [g l]).flatten[k.toNat * 1]? = some (g x) := by
  rw [BN5, Nat.mul_one, Y6, h]; rfl
theorem AR2 {w : E0} {T : List (Value × Value)} {L : List Value} {i : Nat} {tx : B1} {y : Value × Value} (hp : w.Txns[i]? = some tx) (hy : T[i]? = some y) : (nwZ w T L).Perm (B1.ow tx y ++ (nin B1.ow (w.Txns.eraseIdx i) (T.eraseIdx i) ++ nin B5.ow w.Looks L)) := by
  rw [← e6];exact (AU2 (ow := B1.ow) hp hy).append_right _
theorem CF7 (b : Nat) (w : E0) (X : WX) (T : List (Value × Value)) (L : List Value) (g t : Int) (tx : B1) (y : Value × Value) (n : Int) (gi : C8) (htx : w.Txns[(t - 1).toNat]? = some tx) (hy : T[(t - 1).toNat]? = some y) (hT : T.length = w.Txns.length) (ht : 1 ≤ t ∧ t ≤ 1000000) (hg0 : 0 ≤ g) (hn : tx.Terms[g.toNat]? = some n) (hx : w.Groups[g.toNat]? = some gi) : M7 218 [AV.ptr b 0, AV.int g, AV.int t] (WB b w X T L) (fun _ : Unit => True) (fun _ => WB b w X T L) (fun _ => AV.bool ((n != 0) && (n != gi.Term))) := by
  have htl := (F4.1 htx).1;have hgl := (F4.1 hx).1;have hnl := (F4.1 hn).1;refine C5 Tryz.func218 rfl Tryz.ntmps218 rfl ?_;refine R5 ?_;refine AWP.le (Q8 7 (t := ([Go.AV.Own.arr y.1 80 3 (tx.Got.map H4.cs), Go.AV.Own.arr y.2 3 1 (tx.Terms.map fun n => [AV.int n])]) ++ (nin B1.ow (w.Txns.eraseIdx (t - 1).toNat) (T.eraseIdx (t - 1).toNat) ++ nin B5.ow w.Looks L)) (AR2 htx hy)) ?_;refine R8 ?_;refine A1 rfl (H6 5 rfl M5 S4 (A0 rfl) rfl (A0 rfl) qz8 Al6) ?_;refine A1 rfl (L0 5 rfl I8 rfl Tryz.sizeOf26 (A0 rfl) rfl rfl qz2) ?_;refine A1 rfl (M6 5 rfl (A0 rfl) rfl Tryz.isAgg26 qz2 rfl) ?_;refine R1 ?_;refine A1 rfl (H6 8 rfl C9 D0 (A0 rfl) rfl (A0 rfl) qz8 Al6) ?_;refine A1 rfl (AW1 8 rfl (A0 rfl) rfl P4 (BZ0 (g := AV.int) hn)) ?_;refine R3 ?_;refine AWP.le (B9 [0, 0, 0, 0, 0, 0, 0, 0, 0] rfl) ?_;refine AWP.le (Q8 7 (t := nwZ w T L) ((AR2 htx hy).symm)) ?_;refine R11 ?_;refine N4 rfl (fun hc => H6 2 rfl I0 D3 (A8 rfl hc) rfl (A8 rfl hc) qz8 Al6) ?_;refine N4 rfl (fun hc => L0 2 rfl U9 rfl D0 (A8 rfl hc) rfl rfl qz5) ?_;refine N4 rfl (fun hc => M6 2 rfl (A8 rfl hc) rfl P4 qz5 rfl) ?_;refine R5 ?_;exact I3 [0, 0, 0, 0, 0, 0, 0] 0 (nwZ w T L) [] () (trivial) rfl (show List.Perm (nwZ w T L) ((nwZ w T L) ++ []) from B6) B7 K5
end Go.PQ
namespace Go.M
open Go.AV
theorem Cx2 (l : List Int) (n : Int) : (AO4 l n).length ≤ l.length + 1 := by
  induction l with
  | nil => simp [AO4]
  | cons y l ih =>
    unfold AO4;split
    · rw [H1, H1]; omega
    · split <;> simp
theorem CF8 {n m : Int} : ∀ {l : List Int}, m ∈ AO4 l n → m = n ∨ m ∈ l
  | [], h => by unfold AO4 at h; exact .inl (V8.1 h)
  | x :: l, h => by
    unfold AO4 at h;split at h
    · rcases O5.1 h with h | h
      · exact .inr (h ▸ W6)
      · rcases CF8 h with h | h
        · exact .inl h
        · exact .inr (S7 _ h)
    · split at h
      · exact .inr h
      · rcases O5.1 h with h | h
        · exact .inl h
        · exact .inr h
theorem Br4 {m : Int} : ∀ {l : List J5} {a : List Int}, m ∈ l.foldl (fun a y => AO4 a y.Txn) a → m ∈ a ∨ ∃ y ∈ l, y.Txn = m
  | [], a, h => .inl h
  | y :: l, a, h => by
    rw [List.foldl_cons] at h;rcases Br4 h with h | ⟨z, hz, e⟩
    · rcases CF8 h with h | h
      · exact .inr ⟨y, W6, h.symm⟩
      · exact .inl h
    · exact .inr ⟨z, S7 _ hz, e⟩
theorem ask_mem9 {l : List J5} {x : J5} (h : AQ2 l) : ∀ n ∈ (Ao8 l [] x (AC2 l x)).2, 1 ≤ n ∧ n ≤ 1000000 := fun n hn => by
  have hw : n ∈ AC2 l x := by
    unfold Ao8 at hn;split at hn
    · cases hn
    · split at hn
      · cases hn
      · exact hn
  unfold AC2 at hw;rcases Br4 hw with h1 | ⟨y, hy, e⟩
  · cases h1
  · rw [← e]; exact (h.2 y (List.mem_filter.1 hy).1).1
theorem ask_len9 {l : List J5} {x : J5} : (Ao8 l [] x (AC2 l x)).2.length ≤ l.length := by
  have h : (AC2 l x).length ≤ l.length := by
    have h1 : ∀ (m : List J5) (a : List Int), (m.foldl (fun a y => AO4 a y.Txn) a).length ≤ a.length + m.length := fun m => by
      induction m with
      | nil => intro a; simp
      | cons y m ih => intro a; rw [List.foldl_cons]; have h2 := ih (AO4 a y.Txn); have h3 := Cx2 a y.Txn; rw [H1]; omega
    have h2 := h1 (l.filter (Av3 x)) [];have h3 := List.length_filter_le (Av3 x) l;unfold AC2;rw [P6] at h2; omega
  unfold Ao8;split
  · exact D6 _
  · split
    · exact D6 _
    · exact h
theorem CF9 {x z : J5} : ∀ {l : List J5}, z ∈ AI2 l x → z = x ∨ ∃ y ∈ l, z.Key = y.Key ∧ z.Txn = y.Txn
  | [], h => by unfold AI2 at h; exact .inl (V8.1 h)
  | y :: l, h => by
    unfold AI2 at h;split at h
    · rcases O5.1 h with h | h
      · exact .inr ⟨y, W6, by rw [h], by rw [h]⟩
      · exact .inr ⟨z, S7 _ h, rfl, rfl⟩
    · rcases O5.1 h with h | h
      · exact .inr ⟨y, W6, by rw [h], by rw [h]⟩
      · rcases CF9 h with h | ⟨q, hq, e⟩
        · exact .inl h
        · exact .inr ⟨q, S7 _ hq, e⟩
theorem take_ok9 {l : List J5} {x : J5} (h : AQ2 l) (hx : (1 ≤ x.Txn ∧ x.Txn ≤ 1000000) ∧ x.Key.length ≤ 64) (hl : (AI2 l x).length ≤ 60) : AQ2 (AI2 l x) := by
  refine ⟨hl, fun z hz => ?_⟩;rcases CF9 hz with e | ⟨y, hy, e1, e2⟩
  · rw [e]; exact hx
  · have h9 := h.2 y hy
    refine ⟨by rw [e2]; exact h9.1, ?_⟩;have h8 := h9.2;unfold J5.size at h8 ⊢; rw [e1]; exact h8
theorem Cx3 {x : J5} : ∀ {l : List J5}, (AI2 l x).length ≤ l.length + 1
  | [] => by unfold AI2; exact L5 _
  | y :: l => by
    unfold AI2;split
    · simp
    · rw [H1, H1]; have := Cx3 (x := x) (l := l); omega
theorem AX0 {α : Type} {l : List α} {i : Nat} {x y : α} (h : l[i]? = some x) : (l.set i y)[i]? = some y := AR3 (F4.1 h).1
theorem Ax7 {T X : Type} {ocs : T → X → List AV} {l : List T} {xs : List X} {i : Nat} (h : l[i]? = none ∨ xs[i]? = none) : (L7 ocs l xs)[i]? = none := by
  unfold L7;rw [List.getElem?_zipWith];rcases h with h | h
  · rw [h]
  · rw [h]; cases l[i]? <;> rfl
def w8 (t : B1) (g : Nat) (n : Int) : B1 := { t with Terms := t.Terms.set g n }
theorem wf_lock {w : E0} (hw : WI w) {g : Nat} {l : List J5} (hl : AQ2 l) {i : Nat} {t : B1} (ht : w.Txns[i]? = some t) (n : Int) : WF w (AH9 (Ac9 w g l) i (w8 t g n)) := by
  have h1 := CR7 hw (i := g) hl;have h := hw.txns.2 t (C3 ht);have h2 := Au4 h1.1 (i := i) (t := w8 t g n) ⟨by show (t.Terms.set g n).length = _; rw [V4]; exact h.terms, h.ops, h.got, h.span⟩;exact ⟨h2.1, h1.2.trans h2.2, rfl, rfl⟩
theorem Cx4 (s : Str) : -999999 ≤ (l5N s).1 ∧ (l5N s).1 ≤ 999999 := by
  cases h : (l5N s).2 with
  | false => rw [l5N_fail s h]; decide
  | true => exact (l5N_back (s := s) (n := (l5N s).1) (by rw [← h])).2
theorem Bh6 {buf : List A4} {got : List H4} {k : Str} {n : Nat} (hb : ∀ w ∈ buf, w.size ≤ n) (hg : ∀ g ∈ got, g.size ≤ n) : (E7 buf got k).1.length ≤ n := by
  unfold E7;split
  · rename_i w hw
    have := hb w (An5 hw);unfold A4.size at this; dsimp only; omega
  · split
    · rename_i g hg2
      have := hg g (An5 hg2);unfold H4.size at this; dsimp only; omega
    · exact D6 _
theorem Al2 {α : Type} {p : α → Bool} {l : List α} {i : Nat} {x : α} (h : l[i]? = some x) : (l.drop i).find? p = if p x = true then some x else (l.drop (i + 1)).find? p := by
  rw [J2 h];by_cases hp : p x = true
  · rw [List.find?_cons_of_pos hp, D1 hp]
  · rw [List.find?_cons_of_neg hp, D4 hp]
structure WD (l : List A4) : Prop where
  keys : (U0 l).Sublist AO3
  vals : ∀ w ∈ l, AI7 w.Val w.Gone = true
theorem Cx5 {l : List Str} (h1 : ∀ k ∈ l, r7 k = true) (h2 : AO2 l) : n7 l = true := by
  unfold n7;rw [l8.2 h1, (AW5 (p := Op.bytesLess) (fun _ _ _ => T8)).2 h2]; rfl
structure OI (n : Int) (l : List AY4) : Prop where
  good : ∀ o ∈ l, orderR o = true ∧ o.Txn < n
  nodup : (l.map AY4.Txn).Nodup
theorem Aq6 {s : H2} (h : q9 s = true) : s.size ≤ 15000 := by
  have g := AY1.1 h;have h1 := BW2 g.cells;have h2 := y6 (f := F1.size) (c := 400) (l := s.Held) fun k hk => Ah6 (g.good k hk).1;have h3 := g.hlen;have h4 := g.tlen;show D2 C4.size s.Cells + D2 F1.size s.Held + s.Told.length ≤ 15000
  omega
theorem Cx6 {cuts ks : List Str} {p : Int} (h : p ∈ Ao9 cuts ks) : 0 ≤ p ∧ p ≤ cuts.length := by
  rcases ((BH4 (cuts := cuts) (ks := ks) (a := []) List.Pairwise.nil).2 p).1 h with h | ⟨k, _, e⟩
  · cases h
  · have := Bk7 cuts k
    omega
theorem BB7 {α : Type} {f : α → Nat} {p : α → Bool} : ∀ {l : List α}, D2 f (l.filter p) ≤ D2 f l
  | [] => L5 _
  | x :: l => by
    have ih := BB7 (f := f) (p := p) (l := l)
    cases hp : p x with
    | true => rw [List.filter_cons_of_pos hp, U5, U5]; omega
    | false => rw [List.filter_cons_of_neg (by rw [hp]; decide), U5]; omega
theorem As6 {α : Type} {p : α → Bool} {l : List α} {i : Nat} {x : α} (h : l[i]? = some x) : (l.take (i + 1)).filter p = (l.take i).filter p ++ (if p x = true then [x] else []) := by
  rw [V7, h, List.filter_append]
  cases hp : p x <;> simp [hp]
def inS (cuts : List Str) (part : Int) (k : Str) : Bool := ((u6 cuts k : Int) == part)
def l5 (got : List H4) : List Str := got.foldl (fun a g => AA6 a g.Key) []
theorem CG0 : ∀ {got : List H4} {a : List Str}, AO2 a → AO2 (got.foldl (fun a g => AA6 a g.Key) a)
  | [], a, h => h
  | g :: got, a, h => by rw [List.foldl_cons]; exact CG0 (BB0 h).1
theorem CG1 : ∀ {got : List H4} {a : List Str}, (got.foldl (fun a g => AA6 a g.Key) a).length ≤ a.length + got.length
  | [], a => L5 _
  | g :: got, a => by rw [List.foldl_cons]; have h1 := CG1 (got := got) (a := AA6 a g.Key); have h2 := BO9 g.Key a; rw [H1]; omega
theorem Br5 (got : List H4) : AO2 (l5 got) := CG0 List.Pairwise.nil
theorem Ax8 (got : List H4) : (l5 got).length ≤ got.length := by have := CG1 (got := got) (a := []); simpa [l5] using this
theorem Br6 {got : List H4} {i : Nat} {g : H4} (h : got[i]? = some g) : l5 (got.take (i + 1)) = AA6 (l5 (got.take i)) g.Key := by
  unfold l5;rw [V7, h, List.foldl_append]; rfl
def AO8 (cuts : List Str) (t : B1) : List Int := Ao9 cuts (Ai2 (l5 t.Got ++ U0 (Q4 t.Ops t.Got).2.2))
def Ah0 (t : B1) : Bool := ((Q4 t.Ops t.Got).1 == 3) && decide (0 < ((l5 t.Got).length : Int) + ((Q4 t.Ops t.Got).2.2.length : Int))
structure SetB (t : B1) : Prop where
  len : t.Ops.length ≤ 1000
  ops : ∀ o ∈ t.Ops, Af3 1000 o
  got : t.Got.length ≤ 1000 ∧ ∀ g ∈ t.Got, g.size ≤ 1000
theorem Ba4.sb {n : Nat} {c : Int} {t : B1} (h : Ba4 n c t) : SetB t where
  len := by have h9 := h.ops.1; unfold AF2 at h9; rw [F0, I4] at h9; have := h9.1; omega
  ops := fun o ho => by have h9 := Ad7 h.ops.1 o ho; exact ⟨L4 h9.size D5, h9.by', h9.key⟩
  got := ⟨L4 h.got.1 D5, fun g hg => L4 (h.got.2 g hg) D5⟩
theorem CG2 {cuts : List Str} {t : B1} (h : Ah0 t = true) : ∃ p, (AO8 cuts t)[0]? = some p := by
  unfold Ah0 at h;simp only [F0, I4] at h;have h0 := h.2;have hk : ∃ k, k ∈ Ai2 (l5 t.Got ++ U0 (Q4 t.Ops t.Got).2.2) := by
    cases hr : l5 t.Got with
    | cons k r => exact ⟨k, (BE4 _ _).2 Y2⟩
    | nil =>
      cases hw : (Q4 t.Ops t.Got).2.2 with
      | cons w r => exact ⟨w.Key, (BE4 _ _).2 (by simp [U0])⟩
      | nil => rw [hr, hw] at h0; simp at h0
  obtain ⟨k, hk⟩ := hk;have h1 := ((BH4 (cuts := cuts) (ks := Ai2 (l5 t.Got ++ U0 (Q4 t.Ops t.Got).2.2)) (a := []) List.Pairwise.nil).2 (u6 cuts k)).2 (.inr ⟨k, hk, rfl⟩);exact B3 (List.length_pos_of_mem h1)
theorem By4 {cuts : List Str} {t : B1} {p : Int} (h : p ∈ AO8 cuts t) : 0 ≤ p ∧ p ≤ cuts.length := Cx6 h
theorem BQ8 {α : Type} [DecidableEq α] : ∀ {a b : List α}, a.Nodup → (∀ x ∈ a, x ∈ b) → a.length ≤ b.length
  | [], _, _, _ => D6 _
  | x :: a, b, hn, h => by
    have hn2 := List.nodup_cons.1 hn;have h1 : a.length ≤ (b.erase x).length := BQ8 hn2.2 fun y hy => (List.mem_erase_of_ne (fun e => hn2.1 (by rw [← e]; exact hy))).2 (h y (S7 _ hy));have h2 := List.length_erase_of_mem (h x W6);have h3 : 0 < b.length := List.length_pos_of_mem (h x W6);rw [H1]; omega
structure Ai3 (l : List TOp) (got : List H4) : Prop where
  nd : (got.map H4.Key).Nodup
  sub : ∀ g ∈ got, g.Key ∈ l.map TOp.Key
  size : ∀ g ∈ got, g.size ≤ 200
theorem Ai3.len {l : List TOp} {got : List H4} (h : Ai3 l got) : got.length ≤ l.length := by
  have := BQ8 h.nd (b := l.map TOp.Key) fun k hk => by obtain ⟨g, hg, e⟩ := n8.1 hk; rw [← e]; exact h.sub g hg
  simpa using this
theorem Ai3.nil (l : List TOp) : Ai3 l [] := ⟨List.nodup_nil, fun g h => (by cases h), fun g h => (by cases h)⟩
theorem Ai3.snoc {l : List TOp} {got : List H4} {g : H4} (h : Ai3 l got) (hk : g.Key ∈ l.map TOp.Key) (hn : ∀ x ∈ got, x.Key ≠ g.Key) (hs : g.size ≤ 200) : Ai3 l (got ++ [g]) where
  nd := by
    rw [V1];refine List.nodup_append.2 ⟨h.nd, by simp, fun a ha b hb => ?_⟩;obtain ⟨x, hx, e⟩ := n8.1 ha;have : b = g.Key := by simpa using hb
    rw [← e, this]; exact hn x hx
  sub := fun x hx => by
    rcases Z7.1 hx with hx | hx
    · exact h.sub x hx
    · rw [V8.1 hx]; exact hk
  size := fun x hx => by
    rcases Z7.1 hx with hx | hx
    · exact h.size x hx
    · rw [V8.1 hx]; exact hs
theorem CG3 {o : TOp} (h : OpD o) : Af3 64 o := by
  have hg : AF2 [o] = true := by unfold AF2; rw [show ([o].any fun o => !BI0 o) = false by simp [h.1]]; rfl
  have h9 := Ad7 hg o W6;exact ⟨L4 h9.size D5, h9.by', h9.key⟩
theorem Cx7 {rows : List A4} {k : Str} {n : Nat} (h : ∀ w ∈ rows, w.size ≤ n) (hk : k.length ≤ 64) : (Aa0 rows k).size ≤ n + 64 ∧ (Aa0 rows k).Key = k := by
  unfold Aa0;split
  · rename_i w hw
    have := h w (BP7 hw).1;unfold A4.size at this;exact ⟨by unfold H4.size; dsimp only; omega, rfl⟩
  · exact ⟨by unfold H4.size; simp only [P6]; omega, rfl⟩
def Bu1 (t : B1) (x : P5) (c : Int) : B1 := { t with Yes := x.Yes, Time := x.Time, End := c }
theorem wf_fin {w : E0} (hw : WI w) {i : Nat} {t : B1} (ht : w.Txns[i]? = some t) (hq : 0 ≤ t.Begin ∧ t.Begin < w.Count) (x : P5) : WF w (AH9 w i (Bu1 t x w.Count)) := by
  have h := hw.txns.2 t (C3 ht);have h2 := Au4 hw (i := i) (t := Bu1 t x w.Count) ⟨h.terms, h.ops, h.got, h.span.1, .inr ⟨hq.1, hq.2, Int.le_refl _⟩⟩;exact ⟨h2.1, h2.2, rfl, rfl⟩
theorem BQ9 {w : E0} (hw : WI w) {g : Int} {gi : C8} (h0 : 0 ≤ g) (hx : w.Groups[g.toNat]? = some gi) (hl : 0 ≤ gi.Lead) : ∃ c, w.Clocks[(3 * g + gi.Lead).toNat]? = some c ∧ AL1 c = true ∧ gi.Lead < 3 ∧ g ≤ 2 ∧ M.AC1 w.Now = true ∧ -1000000 ≤ (AF3 c w.Now).High ∧ (AF3 c w.Now).High ≤ 1000000 := by
  have hgi := hw.groups gi (C3 hx);have hli := Az1 hgi.good hl;have h3 := hgi.three;have hgl := (F4.1 hx).1;have hng := hw.n;obtain ⟨c, hc⟩ := B3 (show (3 * g + gi.Lead).toNat < w.Clocks.length by rw [hw.clocks.1]; omega);have h9 := hw.clocks.2 c (C3 hc);have h8 := hw.now;refine ⟨c, hc, ?_, by omega, by omega, ?_, ?_, ?_⟩
  · unfold AL1 within; rw [F0, I4, I4]; exact h9
  · unfold M.AC1 within; rw [F0, I4, I4]; exact h8
  · show -1000000 ≤ w.Now + c.Off + 5; omega
  · show w.Now + c.Off + 5 ≤ 1000000; omega
theorem Br7 {l : List C4} (h : AK8 l = true) (k : Str) (t : Int) : (cellAt l k t).1.length ≤ 24 := by
  unfold cellAt;split
  · rename_i c hc
    obtain ⟨_, _, h3⟩ := AG5 h;have hm : c ∈ l := by unfold Z9 at hc; exact An5 hc
    unfold Aq9;split
    · rename_i v hv
      have h9 := (h3 c hm).2.2.2.2 v (List.mem_reverse.1 (An5 hv));unfold Az3 AI7 AZ2 at h9; simp only [F0, I4] at h9; dsimp only; omega
    · exact D6 _
  · exact D6 _
def AR9 (t : B1) (g : H4) : B1 := { t with Got := t.Got ++ [g] }
theorem wf_got {w : E0} (hw : WI w) {i : Nat} {t : B1} (ht : w.Txns[i]? = some t) {g : H4} (hl : t.Got.length < 8) (hg : g.size ≤ 64) : WF w (AH9 w i (AR9 t g)) := by
  have h := hw.txns.2 t (C3 ht);have h2 := Au4 hw (i := i) (t := AR9 t g) ⟨h.terms, h.ops, ⟨by show (t.Got ++ [g]).length ≤ 8; rw [G3]; simp; omega, fun x hx => by
    rcases Z7.1 (show x ∈ t.Got ++ [g] from hx) with hx | hx
    · exact h.got.2 x hx
    · rw [V8.1 hx]; exact hg⟩, h.span⟩
  exact ⟨h2.1, h2.2, rfl, rfl⟩
theorem Br8 {w : E0} (hw : WI w) (k : Str) : ∃ gi, w.Groups[((u6 w.Cuts k : Nat) : Int).toNat]? = some gi ∧ (u6 w.Cuts k : Nat) < w.Groups.length := by
  have h1 := Bk7 w.Cuts k;have h2 := hw.cuts.1;obtain ⟨gi, hg⟩ := B3 (show ((u6 w.Cuts k : Nat) : Int).toNat < w.Groups.length by omega);exact ⟨gi, hg, by omega⟩
end Go.M
namespace Go.PQ
open Go.Proofs
open Go Go.AV Go.M
attribute [local irreducible] OpW OpA OpS AWP J3 K8 K0 OpE J6 H5 J9 Le Ev F8 L6 Z8 Int.tmod Int.tdiv IntKind.wrap Q7
theorem CG4 {T X : Type} {ocs : T → X → List AV} {l : List T} {xs : List X} {i : Nat} {p p' : T} {x x' : X} (hp : l[i]? = some p) (hx : xs[i]? = some x) : L7 ocs (l.set i p') (xs.set i x') = (L7 ocs l xs).set i (ocs p' x') := by
  apply List.ext_getElem?
  intro j;by_cases e : i = j
  · subst e
    rw [T7 (AX0 hp) (AX0 hx), AX0 (T7 hp hx)]
  · rw [Aa8 e]
    cases h1 : l[j]? with
    | none => rw [Ax7 (by rw [Aa8 e]; exact .inl h1), Ax7 (.inl h1)]
    | some q =>
      cases h2 : xs[j]? with
      | none => rw [Ax7 (by rw [Aa8 e (l := xs)]; exact .inr h2), Ax7 (.inr h2)]
      | some z => rw [T7 (by rw [Aa8 e]; exact h1) (by rw [Aa8 e]; exact h2), T7 h1 h2]
theorem Co9 {T X : Type} {ocs : T → X → List AV} {l : List T} {xs : List X} {i : Nat} {p p' : T} {x : X} (hp : l[i]? = some p) (hx : xs[i]? = some x) (he : ocs p' x = ocs p x) : L7 ocs (l.set i p') xs = L7 ocs l xs := by rw [AJ4 hp hx, he, BK4 (T7 hp hx)]
theorem Br9 {w : E0} {T : List (Value × Value)} {L : List Value} {i : Nat} {p p' : B1} {y y' : Value × Value} (hp : w.Txns[i]? = some p) (hy : T[i]? = some y) : (B1.ow p' y' ++ (nin B1.ow (w.Txns.eraseIdx i) (T.eraseIdx i) ++ nin B5.ow w.Looks L)).Perm (nin B1.ow (w.Txns.set i p') (T.set i y') ++ nin B5.ow w.Looks L) := by
  have h9 := AU2 (ow := B1.ow) (AX0 (y := p') hp) (AX0 (y := y') hy);rw [List.eraseIdx_set_eq, List.eraseIdx_set_eq] at h9;rw [← e6];exact h9.symm.append_right _
theorem BZ1 {w : E0} {T : List (Value × Value)} {L : List Value} {i : Nat} {p : B5} {y : Value} (hp : w.Looks[i]? = some p) (hy : L[i]? = some y) : (nwZ w T L).Perm (B5.ow p y ++ (nin B5.ow (w.Looks.eraseIdx i) (L.eraseIdx i) ++ nin B1.ow w.Txns T)) := by
  refine List.perm_append_comm.trans ?_;rw [← e6];exact (AU2 (ow := B5.ow) hp hy).append_right _
theorem lk_put {w : E0} {T : List (Value × Value)} {L : List Value} {i : Nat} {p p' : B5} {y y' : Value} (hp : w.Looks[i]? = some p) (hy : L[i]? = some y) : (B5.ow p' y' ++ (nin B5.ow (w.Looks.eraseIdx i) (L.eraseIdx i) ++ nin B1.ow w.Txns T)).Perm (nin B1.ow w.Txns T ++ nin B5.ow (w.Looks.set i p') (L.set i y')) := by
  have h9 := AU2 (ow := B5.ow) (AX0 (y := p') hp) (AX0 (y := y') hy);rw [List.eraseIdx_set_eq, List.eraseIdx_set_eq] at h9;rw [← e6];exact (h9.symm.append_right _).trans AM5
theorem CW5 (b : Nat) (w : E0) (X : WX) (T : List (Value × Value)) (L : List Value) (g t : Int) (k : Str) (write : Bool) (gi : C8) (hw : WI w) (hT : T.length = w.Txns.length) (ht : 1 ≤ t ∧ (t - 1).toNat < w.Txns.length) (h0 : 0 ≤ g) (hx : w.Groups[g.toNat]? = some gi) (hl : 0 ≤ gi.Lead) (hk : k.length ≤ 12) : M7 219 [AV.ptr b 0, AV.int g, AV.int t, AV.str k, AV.bool write] (WB b w X T L) (fun v : E0 × Bool => WF w v.1) (fun v => WB b v.1 X T L) (fun v => AV.bool v.2) := by
 have htn := hw.txns.1;have hgi := hw.groups gi (C3 hx);have hgl := (F4.1 hx).1;obtain ⟨lo, hlx⟩ := B3 (show g.toNat < w.Locks.length by rw [hw.locks.1]; omega);have hlo := hw.locks.2 lo (C3 hlx);have hlo60 := hlo.1;have hll := (F4.1 hlx).1;obtain ⟨kr, hko⟩ := CW4 b w X T L g t k write gi hx h0 hgi.good hl;obtain ⟨W, hW⟩ : ∃ W, (Ao8 lo [] ⟨k, t, write⟩ (AC2 lo ⟨k, t, write⟩)).2 = W := ⟨_, rfl⟩;obtain ⟨cd, hcd⟩ : ∃ cd, (Ao8 lo [] ⟨k, t, write⟩ (AC2 lo ⟨k, t, write⟩)).1 = cd := ⟨_, rfl⟩;have hwm := ask_mem9 (x := ⟨k, t, write⟩) hlo;have hask := CV9 lo [] ⟨k, t, write⟩ qz8;rw [hcd, hW] at hask;have hWl : W.length ≤ 60 := by rw [← hW]; exact L4 (ask_len9 (x := ⟨k, t, write⟩)) hlo60
 rw [hW] at hwm;refine C5 Tryz.func219 rfl Tryz.ntmps219 rfl ?_;refine R12 ?_;refine A1 rfl (n3 [0, 0, 0, 0, 0, 0, 0] 0 (nwZ w T L) ([]) rfl Tryz.call233 rfl rfl (B6) (hko) (A3 (A0 rfl) BI4)) ?_;refine R1 ?_;refine A2 ?_ ?_
 ·intro h22;refine R5 ?_;exact I3 [0, 0, 0, 0, 0, 0, 0] 0 (nwZ w T L) [] ((w, false)) (qz35) rfl (show List.Perm (nwZ w T L) ((nwZ w T L) ++ []) from B6) qz70 (N6 rfl (A7 rfl B7))
 intro h22;refine R8 ?_;intro b11;refine R10 ?_;refine C1 rfl rfl (H6 4 rfl U8 u7 (A0 rfl) rfl (A0 rfl) qz8 Bu8) ?_;refine C1 rfl rfl (AW1 4 rfl (A0 rfl) rfl Tryz.isAgg200 (BZ0 (g := fun l => AV.list 3 (l.map J5.cs)) hlx)) ?_;refine R1 ?_;refine C1 rfl rfl (A9 rfl Tryz.call234 rfl (hask) (A3 (A0 rfl) (A3 O2 L2))) ?_;refine R12 ?_;refine A2 ?_ ?_
 ·intro h41;have k41 := K6 h41;(try simp only [A6] at k41);refine R5 ?_;exact I3 [1, 1, 1, 1, 1, 1, 1] 1 (nwZ w T L) [] ((w, false)) (qz35) rfl (show List.Perm (nwZ w T L) ((nwZ w T L) ++ []) from B6) qz70 (N6 rfl (A7 rfl B7))
 intro h41;have k41 := J4 h41;(try simp only [A6] at k41);refine R9 ?_;refine K2 qz112 ?_;refine AWP.le (B9 [1, 1, 1, 1, 1, 1, 1] rfl) ?_;refine K3 [(0, _), (1, _), (2, _), (10, _), (11, _), (42, _), (43, _)] [] (fun (i : Nat) (v : E0) => i ≤ W.length ∧ WF w v) (fun i v => [.box b 196 [AV.int v.Now, AV.int v.Count, AV.is X.cl, strs v.Cuts, AV.is X.gr, AV.is X.lo, AV.is X.pr, AV.is X.tx, AV.is X.lk], .arr X.cl 235 1 (v.Clocks.map u9.cs), .arr X.gr 168 3 (v.Groups.map C8.cs), .arr X.lo 200 1 (v.Locks.map fun l => [AV.list 3 (l.map J5.cs)]), .arr X.pr 3 1 (v.Promised.map fun n => [AV.int n]), .arr X.tx 132 10 (L7 B1.ocs v.Txns T), .arr X.lk 141 6 (L7 B5.ocs v.Looks L), .box b11 279 (J5.mk k t write).cs] ++ (nwZ v T L)) (fun i v => [(44, AV.int i)]) (fun i v => W.length - i) (0) (w) ?_ (I6 (by (rw [S1]; rfl)) A5) ?_
 ·exact ⟨D6 _, WF.refl hw⟩
 intro i v hinv;refine K2 (S1 _) ?_;refine R5 ?_;refine A2 ?_ ?_
 ·intro h45;have k45 := C6 h45;have hlt : i < W.length := (by simpa using h45);obtain ⟨y, hy⟩ := B3 hlt;have hy1 := hwm y (C3 hy);have hTv : T.length = v.Txns.length := hT.trans hinv.2.ws.txns.symm;refine R5 ?_;refine A1 rfl (C7 rfl C9 D0 (A0 rfl) (A0 rfl) hy qz3) ?_;refine R6 ?_;refine J7 [0, 0, 0, 0, 0, 0, 0] 1 7 (nwZ v T L) ([]) (fun zz => nwZ zz T L) rfl rfl rfl rfl Tryz.call199 rfl rfl (show List.Perm (nwZ v T L) ((nwZ v T L) ++ ([])) from B6) (Az2 b v X T L y hinv.2.wi hTv hy1) E4 (fun a => L9) ?_;intro x50 ok50;refine R5 ?_;refine G8 i v (i + 1) (x50) ?_ ?_ (I6 (Eq.trans B7 (S1 _).symm) A5)
  ·exact ⟨by omega, hinv.2.trans ok50⟩
  omega
 intro h45;have k45 := C2 h45;have hv := hinv.2;have hTv : T.length = v.Txns.length := hT.trans hv.ws.txns.symm;obtain ⟨tx, htx⟩ := B3 (show (t - 1).toNat < v.Txns.length by rw [hv.ws.txns]; exact ht.2);obtain ⟨z, hz⟩ := B3 (show (t - 1).toNat < T.length by omega);obtain ⟨n, hn⟩ := B3 (show g.toNat < tx.Terms.length by rw [(hv.wi.txns.2 tx (C3 htx)).terms, hv.gr]; exact hgl);have hnl := (F4.1 hn).1;obtain ⟨lv, hlx⟩ := B3 (show g.toNat < v.Locks.length by rw [hv.wi.locks.1, hv.gr]; exact hgl);have hll := (F4.1 hlx).1;have hlvo := hv.wi.locks.2 lv (C3 hlx);have hlv60 := hlvo.1;have hx : v.Groups[g.toNat]? = some gi := (by rw [hv.gr]; exact hx);have hgl := (F4.1 hx).1;refine R9 ?_;refine C1 rfl rfl (H6 3 rfl U8 u7 (A0 rfl) rfl (A0 rfl) qz8 Bu8) ?_;refine C1 rfl rfl (AW1 3 rfl (A0 rfl) rfl Tryz.isAgg200 (BZ0 (g := fun l => AV.list 3 (l.map J5.cs)) hlx)) ?_;refine R1 ?_;refine C1 rfl rfl (A9 rfl Tryz.call235 rfl (CJ3 lv ⟨k, t, write⟩ qz8) E4) ?_;refine R9 ?_;refine A2 ?_ ?_
 ·intro h64;have k64 := C6 h64;refine R5 ?_;exact I3 [0, 0, 0, 0, 0, 0, 0] 1 (nwZ v T L) [] ((v, false)) (qz35) rfl (show List.Perm (nwZ v T L) ((nwZ v T L) ++ []) from B6) qz70 (N6 rfl (A7 rfl B7))
 intro h64;have k64 := C2 h64;refine R10 ?_;refine A1 rfl (H6 3 rfl U8 u7 (A0 rfl) rfl (A0 rfl) qz8 Bu8) ?_;refine m4 3 rfl rfl rfl (A0 rfl) (A0 rfl) (n1 _ _) rfl u7 rfl AG2 ?_;refine R2 ?_;refine K2 AT4 ?_;refine AWP.le (Q8 8 (t := ([Go.AV.Own.arr z.1 80 3 (tx.Got.map H4.cs), Go.AV.Own.arr z.2 3 1 (tx.Terms.map fun n => [AV.int n])]) ++ (nin B1.ow (v.Txns.eraseIdx (t - 1).toNat) (T.eraseIdx (t - 1).toNat) ++ nin B5.ow v.Looks L)) (AR2 htx hz)) ?_;refine O7 21 E3 E3 rfl ?_;refine R7 ?_;refine C1 rfl rfl (H6 5 rfl M5 S4 (A0 rfl) rfl (A0 rfl) qz8 Bu8) ?_;refine C1 rfl rfl (L0 5 rfl I8 rfl Tryz.sizeOf26 (A0 rfl) rfl rfl qz78) ?_;refine C1 rfl rfl (M6 5 rfl (A0 rfl) rfl Tryz.isAgg26 qz78 rfl) ?_;refine R7 ?_;refine C1 rfl rfl (H6 2 rfl I0 D3 (A0 rfl) rfl (A0 rfl) qz8 Bu8) ?_;refine C1 rfl rfl (L0 2 rfl U9 rfl D0 (A0 rfl) rfl rfl qz5) ?_;refine C1 rfl rfl (M6 2 rfl (A0 rfl) rfl P4 qz5 rfl) ?_;refine C1 rfl rfl (H6 9 rfl C9 D0 (A0 rfl) rfl (A0 rfl) qz8 Bu8) ?_;refine R1 ?_;refine m4 9 rfl rfl rfl (A0 rfl) (A0 rfl) (Z2 _ _) rfl D0 rfl AG2 ?_;refine R2 ?_;refine K2 AT4 ?_;refine AWP.le (B9 [0, 0, 0, 0, 0, 0, 0, 0, 0, 0] rfl) ?_;refine AWP.le (Q8 8 (t := nin B1.ow (v.Txns.set (t - 1).toNat (w8 tx g.toNat gi.Term)) T ++ nin B5.ow v.Looks L) ((by have h9 := Br9 (w := v) (L := L) (p' := w8 tx g.toNat gi.Term) (y' := z) htx hz; rw [BK4 hz] at h9; unfold B1.ow w8 at h9 ⊢; dsimp only at h9; rw [AF6] at h9; exact h9))) ?_;refine R4 ?_;exact I3 [0, 0, 0, 0, 0, 0, 0] 1 (nin B1.ow (v.Txns.set (t - 1).toNat (w8 tx g.toNat gi.Term)) T ++ nin B5.ow v.Looks L) [] ((AH9 (Ac9 v g.toNat (AI2 lv ⟨k, t, write⟩)) (t - 1).toNat (w8 tx g.toNat gi.Term), true)) (qz35) rfl (show List.Perm (nin B1.ow (v.Txns.set (t - 1).toNat (w8 tx g.toNat gi.Term)) T ++ nin B5.ow v.Looks L) ((nin B1.ow (v.Txns.set (t - 1).toNat (w8 tx g.toNat gi.Term)) T ++ nin B5.ow v.Looks L) ++ []) from B6) qz70 (N6 rfl (A7 rfl B7))
end Go.PQ
namespace Go.PQ
open Go.Proofs
open Go Go.AV Go.M
attribute [local irreducible] OpW OpA OpS AWP J3 K8 K0 OpE J6 H5 J9 Le Ev F8 L6 Z8 Int.tmod IntKind.wrap Q7
theorem AK6 (l : List A4) (w : A4) (hl : l.length ≤ 4194303) (ha : adj T1 l = true) : F6 63 [AV.list 3 (l.map A4.cs), AV.agg w.cs] (AV.list 3 ((ins l w).map A4.cs)) := by
  rw [← CB7 ha];exact N7 (Bq1 l w hl) fun v _ => M1 (V8.2 rfl) G6
end Go.PQ
namespace Go.PQ
open Go.Proofs
open Go Go.AV Go.M
attribute [local irreducible] OpW OpA OpS AWP J3 K8 K0 OpE J6 H5 J9 Le Ev F8 L6 Z8 Int.tmod Int.tdiv IntKind.wrap Q7
theorem BT4 (buf : List A4) (got : List H4) (k : Str) : F6 131 [AV.list 3 (buf.map A4.cs), AV.list 3 (got.map H4.cs), AV.str k] (AV.tup [AV.str (E7 buf got k).1, AV.bool (E7 buf got k).2.1, AV.bool (E7 buf got k).2.2]) := by
 refine B8 Tryz.func131 rfl Tryz.ntmps131 rfl ?_;refine W4 (t := 0) rfl fun hlb => ?_;try simp only [A6] at hlb
 refine W4 (t := 1) rfl fun hlg => ?_;try simp only [A6] at hlg
 refine R2 ?_;refine A1 rfl (D8 rfl (N9 (l := []) rfl)) ?_;refine R11 ?_;refine E9 [(1, _), (2, _), (13, _), (14, _)] _ (fun (i : Nat) => i ≤ buf.length ∧ buf.find? (fun w => w.Key == k) = (buf.drop i).find? (fun w => w.Key == k)) (fun i => []) (fun i => [(15, AV.int i)]) (fun i => buf.length - i) (0) ?_ (F5 A5) ?_
 ·exact ⟨D6 _, rfl⟩
 intro i hinv;refine R5 ?_;refine A2 ?_ ?_
 ·intro h16;have k16 := C6 h16;have hlt : i < buf.length := Ba7;obtain ⟨x, hx⟩ := B3 hlt;refine R5 ?_;refine A1 rfl (C7 rfl C0 F2 (A0 rfl) (A0 rfl) hx qz3) ?_;refine R2 ?_;intro b10;refine R9 ?_;refine A2 ?_ ?_
  ·intro h22;have he : E7 buf got k = (x.Val, !x.Gone, true) := (by unfold E7; rw [hinv.2, Al2 hx, D1 h22]);rw [he];refine R12 ?_;exact X5 rfl D5 AJ1
  intro h22;refine R5 ?_;refine F7 i (i + 1) ?_ ?_ (Q1 1 A5)
  ·exact ⟨by omega, by rw [hinv.2, Al2 hx, D4 (by rw [h22]; decide)]⟩
  omega
 intro h16;have k16 := C2 h16;have hge : buf.length ≤ i := Ba7;have hnb : buf.find? (fun w => w.Key == k) = none := BT8;refine R9 ?_;refine E9 [(2, _), (29, _), (30, _)] _ (fun (j : Nat) => j ≤ got.length ∧ got.find? (fun g => g.Key == k) = (got.drop j).find? (fun g => g.Key == k)) (fun j => []) (fun j => [(31, AV.int j)]) (fun j => got.length - j) (0) ?_ (F5 A5) ?_
 ·exact ⟨D6 _, rfl⟩
 intro j hinv;refine R5 ?_;refine A2 ?_ ?_
 ·intro h32;have k32 := C6 h32;have hlt1 : j < got.length := (by simpa using h32);obtain ⟨y, hy⟩ := B3 hlt1;refine R5 ?_;refine A1 rfl (C7 rfl M9 U3 (A0 rfl) (A0 rfl) hy qz3) ?_;refine R2 ?_;intro b12;refine R9 ?_;refine A2 ?_ ?_
  ·intro h38;have he : E7 buf got k = (y.Val, y.There, true) := (by unfold E7; rw [hnb, hinv.2, Al2 hy, D1 h38]);rw [he];refine R11 ?_;exact X5 rfl D5 AJ1
  intro h38;refine R5 ?_;refine F7 j (j + 1) ?_ ?_ (Q1 1 A5)
  ·exact ⟨by omega, by rw [hinv.2, Al2 hy, D4 (by rw [h38]; decide)]⟩
  omega
 intro h32;have k32 := C2 h32;have hge1 : got.length ≤ j := (by simpa using h32);have he : E7 buf got k = ([], false, false) := (by unfold E7; rw [hnb, hinv.2, l6 hge1]; rfl);rw [he];refine R3 ?_;refine A1 rfl (D8 rfl (N9 (l := []) rfl)) ?_;refine R4 ?_;exact X5 rfl D5 AJ1
theorem BZ2 (o : TOp) (val : Str) (there : Bool) (hv : val.length ≤ 1048576) (hb : -1000000 ≤ o.By ∧ o.By ≤ 1000000) : F6 132 [AV.agg o.cs, AV.str val, AV.bool there] (AV.bool (AK9 o val there)) := by
 have hr := Cx4 val;refine B8 Tryz.func132 rfl Tryz.ntmps132 rfl ?_;refine R3 ?_;intro b3;refine R5 ?_;refine A1 rfl (A9 rfl Tryz.call133 rfl (BH5 val hv) L2) ?_;refine R18 ?_;refine A2 ?_ ?_
 ·intro h16;have k16 := K6 h16;(try simp only [A6] at k16);have he : AK9 o val there = (if there = true then !(l5N val).2 || !within ((l5N val).1 + o.By) (-999999) 999999 else false) := (by unfold AK9; rw [D1 k16]);rw [he];refine R6 ?_;refine A2 ?_ ?_
  ·intro h19;rw [D4 (by rw [show there = false by simpa using h19]; decide)];refine R5 ?_;exact E5 rfl (A7 rfl B7)
  intro h19;rw [D1 (show there = true by simpa using h19)];refine R10 ?_;refine W9 rfl (fun hc => A9 rfl Tryz.call60 rfl (Q3 _ _ _) (A3 (A8 rfl hc) Ah1)) ?_;refine R5 ?_;exact E5 rfl (A7 rfl B7)
 intro h16;have k16 := J4 h16;(try simp only [A6] at k16);refine R5 ?_;refine A2 ?_ ?_
 ·intro h30;have k30 := K6 h30;(try simp only [A6] at k30);have he : AK9 o val there = ((!there || !(l5N val).2) || decide ((l5N val).1 < o.By)) := (by unfold AK9; rw [D4 k16, D1 k30]);rw [he];refine R17 ?_;exact E5 rfl (A7 rfl B7)
 intro h30;have k30 := J4 h30;(try simp only [A6] at k30);refine R5 ?_;refine A2 ?_ ?_
 ·intro h44;have k44 := K6 h44;(try simp only [A6] at k44);have he : AK9 o val there = there := (by unfold AK9; rw [D4 k16, D4 k30, D1 k44]);rw [he];refine R6 ?_;exact E5 rfl (A7 rfl B7)
 intro h44;have k44 := J4 h44;(try simp only [A6] at k44);refine R5 ?_;refine A2 ?_ ?_
 ·intro h47;have k47 := K6 h47;(try simp only [A6] at k47);have he : AK9 o val there = (!there || (val != o.Val)) := (by unfold AK9; rw [D4 k16, D4 k30, D4 k44, D1 k47]);rw [he];refine R13 ?_;exact E5 rfl (A7 rfl B7)
 intro h47;have k47 := J4 h47;(try simp only [A6] at k47);have he : AK9 o val there = false := (by unfold AK9; rw [D4 k16, D4 k30, D4 k44, D4 k47]);rw [he];refine R6 ?_;exact E5 rfl (A7 rfl B7)
theorem An3 (n : Int) (h : -999999 ≤ n ∧ n ≤ 999999) : F6 134 [AV.int n] (AV.str (AH0 n)) := by
 refine B8 Tryz.func134 rfl Tryz.ntmps134 rfl ?_;refine R2 ?_;refine A1 rfl (D8 rfl (N9 (l := []) rfl)) ?_;refine R7 ?_;refine A2 ?_ ?_
 ·intro h4;have k4 := C6 h4;obtain ⟨m, hm⟩ : ∃ m : Nat, n = -(m : Int) := ⟨n.natAbs, by omega⟩;subst hm;have hdl := Ac0 (k := 6) (n := m) qz8 D5;have hneg : IntKind.i64.wrap (0 - -(m : Int)) = (m : Int) := by (rw [show 0 - -(m : Int) = m by omega]; exact Am1 qz8)
  rw [Am8 qz8];refine R3 ?_;refine A1 rfl (w_neg rfl (A0 rfl)) ?_;rw [hneg];refine A1 rfl (A9 rfl Tryz.call158 rfl (Br1 m qz8) L2) ?_;refine A1 rfl (Bb7 rfl (N9 (l := [45]) rfl) (A0 rfl) Bv0) ?_;refine R3 ?_;exact E5 rfl (A7 rfl B7)
 intro h4;have k4 := C2 h4;obtain ⟨m, hm⟩ : ∃ m : Nat, n = (m : Int) := ⟨n.toNat, by omega⟩;subst hm;rw [BP4];refine R4 ?_;refine A1 rfl (A9 rfl Tryz.call158 rfl (Br1 m qz8) L2) ?_;refine R3 ?_;exact E5 rfl (A7 rfl B7)
theorem Cd7 (l : List TOp) (got : List H4) (hl : l.length ≤ 1000) (ho : ∀ o ∈ l, Af3 1000 o) (hgot : ∀ g ∈ got, g.size ≤ 1000) : F6 108 [AV.list 4 (l.map TOp.cs), AV.list 3 (got.map H4.cs)] (AV.tup [AV.int (Q4 l got).1, AV.str (Q4 l got).2.1, AV.list 3 ((Q4 l got).2.2.map A4.cs)]) := by
 refine B8 Tryz.func108 rfl Tryz.ntmps108 rfl ?_;refine R3 ?_;refine A1 rfl (D8 rfl (N9 (l := []) rfl)) ?_;refine A1 rfl (D8 rfl (O2 (sz := 3))) ?_;refine R3 ?_;refine A1 rfl (D8 rfl (O2 (sz := 3))) ?_;refine R9 ?_;refine K3 [(1, _), (15, _), (16, _)] _ (fun (i : Nat) (buf : List A4) => i ≤ l.length ∧ Q4 l got = AI9 got buf (l.drop i) ∧ adj T1 buf = true ∧ (∀ w ∈ buf, w.size ≤ 1000) ∧ buf.length ≤ i) (fun i buf => []) (fun i buf => [(7, AV.list 3 (buf.map A4.cs)), (17, AV.int i)]) (fun i buf => l.length - i) (0) ([]) ?_ (F5 A5) ?_
 ·exact ⟨D6 _, rfl, rfl, fun w hw => absurd hw List.not_mem_nil, L5 _⟩
 intro i buf hinv;refine R5 ?_;refine A2 ?_ ?_
 ·intro h18;have k18 := C6 h18;have hlt : i < l.length := Ba8;obtain ⟨x, hx⟩ := B3 hlt;have hso := ho x (C3 hx);have hsv := Bh6 (k := x.Key) hinv.2.2.2.1 hgot;refine R5 ?_;refine A1 rfl (C7 rfl T5 W8 (A0 rfl) (A0 rfl) hx qz3) ?_;refine R2 ?_;intro b9;refine R8 ?_;refine A1 rfl (A9 rfl Tryz.call131 rfl (BT4 buf got x.Key) AD6) ?_;refine R24 ?_;refine A2 ?_ ?_
  ·intro h41;have he : Q4 l got = (1, x.Key, []) := qz157;rw [he];refine R6 ?_;refine C1 rfl rfl (D8 rfl (O2 (sz := 3))) ?_;refine R2 ?_;exact X5 rfl D5 AJ1
  intro h41;refine R7 ?_;refine A1 rfl (A9 rfl Tryz.call132 rfl (BZ2 x _ _ qz8 (by have h9 := hso.by'; omega)) (A3 (A0 rfl) (A3 (A0 rfl) (A3 (A0 rfl) B2)))) ?_;refine R1 ?_;refine A2 ?_ ?_
  ·intro h47;have he : Q4 l got = (2, [], []) := qz127;rw [he];refine R3 ?_;refine A1 rfl (D8 rfl (N9 (l := []) rfl)) ?_;refine A1 rfl (D8 rfl (O2 (sz := 3))) ?_;refine R2 ?_;exact X5 rfl D5 AJ1
  intro h47;have hgv : AK9 x (E7 buf got x.Key).1 (E7 buf got x.Key).2.1 = false := h47;have hnx : Q4 l got = AI9 got (Z3 x (E7 buf got x.Key).1 (E7 buf got x.Key).2.1 buf) (l.drop (i + 1)) := qz113;refine R12 ?_;refine A2 ?_ ?_
  ·intro h50;have k50 := K6 h50;(try simp only [A6] at k50);have hop : Z3 x (E7 buf got x.Key).1 (E7 buf got x.Key).2.1 buf = ins buf ⟨x.Key, x.Val, false⟩ := (by unfold Z3; rw [D1 k50]);refine R7 ?_;refine A1 rfl (A9 rfl Tryz.call63 rfl (AK6 buf ⟨x.Key, x.Val, false⟩ qz8 hinv.2.2.1) E4) ?_;refine R6 ?_;refine G8 i buf (i + 1) (Z3 x (E7 buf got x.Key).1 (E7 buf got x.Key).2.1 buf) ?_ ?_ (Q1 1 ⟨Ar5, rfl, rfl, rfl, rfl, trivial⟩)
   ·exact ⟨by omega, hnx, AK1 hinv.2.2.1, AK3 hso.size D5 hso.by' (.inl hso.key) hgv hinv.2.2.2.1, by have h9 := AK2 (o := x) (v := (E7 buf got x.Key).1) (t := (E7 buf got x.Key).2.1) (buf := buf); omega⟩
   omega
  intro h50;have k50 := J4 h50;(try simp only [A6] at k50);refine R5 ?_;refine A2 ?_ ?_
  ·intro h59;have k59 := K6 h59;(try simp only [A6] at k59);have hop : Z3 x (E7 buf got x.Key).1 (E7 buf got x.Key).2.1 buf = ins buf ⟨x.Key, [], true⟩ := (by unfold Z3; rw [D4 k50, D1 k59]);refine R5 ?_;refine A1 rfl (A9 rfl Tryz.call63 rfl (AK6 buf ⟨x.Key, [], true⟩ qz8 hinv.2.2.1) E4) ?_;refine R6 ?_;refine G8 i buf (i + 1) (Z3 x (E7 buf got x.Key).1 (E7 buf got x.Key).2.1 buf) ?_ ?_ (Q1 1 ⟨Ar5, rfl, rfl, rfl, rfl, trivial⟩)
   ·exact ⟨by omega, hnx, AK1 hinv.2.2.1, AK3 hso.size D5 hso.by' (.inl hso.key) hgv hinv.2.2.2.1, by have h9 := AK2 (o := x) (v := (E7 buf got x.Key).1) (t := (E7 buf got x.Key).2.1) (buf := buf); omega⟩
   omega
  intro h59;have k59 := J4 h59;(try simp only [A6] at k59);refine R5 ?_;refine A2 ?_ ?_
  ·intro h66;have k66 := K6 h66;(try simp only [A6] at k66);have har := BP6 k66 hso.by' hgv;refine R3 ?_;refine A1 rfl (A9 rfl Tryz.call133 rfl (BH5 _ qz8) (A3 (A0 rfl) B2)) ?_;refine R12 ?_;refine A2 ?_ ?_
   ·intro h74;have hth : (E7 buf got x.Key).2.1 = false := (by simpa using h74);have hadd : BS2 x (E7 buf got x.Key).1 (E7 buf got x.Key).2.1 = 0 + x.By := CK8;rw [hadd] at har;have hop : Z3 x (E7 buf got x.Key).1 (E7 buf got x.Key).2.1 buf = ins buf ⟨x.Key, AH0 (0 + x.By), false⟩ := CL5;refine R11 ?_;refine C1 rfl rfl (A9 rfl Tryz.call134 rfl (An3 _ qz8) (A3 (A0 rfl) B2)) ?_;refine R1 ?_;refine C1 rfl rfl (A9 rfl Tryz.call63 rfl (AK6 buf ⟨x.Key, AH0 _, false⟩ qz8 hinv.2.2.1) E4) ?_;refine R6 ?_;refine G8 i buf (i + 1) (Z3 x (E7 buf got x.Key).1 (E7 buf got x.Key).2.1 buf) ?_ ?_ (Q1 1 ⟨Ar5, rfl, rfl, rfl, rfl, trivial⟩)
    ·exact ⟨by omega, hnx, AK1 hinv.2.2.1, AK3 hso.size D5 hso.by' (.inl hso.key) hgv hinv.2.2.2.1, by have h9 := AK2 (o := x) (v := (E7 buf got x.Key).1) (t := (E7 buf got x.Key).2.1) (buf := buf); omega⟩
    omega
   intro h74;have hth : (E7 buf got x.Key).2.1 = true := (by simpa using h74);have hadd : BS2 x (E7 buf got x.Key).1 (E7 buf got x.Key).2.1 = (l5N (E7 buf got x.Key).1).1 + x.By := CK8;rw [hadd] at har;have hop : Z3 x (E7 buf got x.Key).1 (E7 buf got x.Key).2.1 buf = ins buf ⟨x.Key, AH0 ((l5N (E7 buf got x.Key).1).1 + x.By), false⟩ := CL5;refine R9 ?_;refine C1 rfl rfl (A9 rfl Tryz.call134 rfl (An3 _ qz8) (A3 (A0 rfl) B2)) ?_;refine R1 ?_;refine C1 rfl rfl (A9 rfl Tryz.call63 rfl (AK6 buf ⟨x.Key, AH0 _, false⟩ qz8 hinv.2.2.1) E4) ?_;refine R6 ?_;refine G8 i buf (i + 1) (Z3 x (E7 buf got x.Key).1 (E7 buf got x.Key).2.1 buf) ?_ ?_ (Q1 1 ⟨Ar5, rfl, rfl, rfl, rfl, trivial⟩)
   ·exact ⟨by omega, hnx, AK1 hinv.2.2.1, AK3 hso.size D5 hso.by' (.inl hso.key) hgv hinv.2.2.2.1, by have h9 := AK2 (o := x) (v := (E7 buf got x.Key).1) (t := (E7 buf got x.Key).2.1) (buf := buf); omega⟩
   omega
  intro h66;have k66 := J4 h66;(try simp only [A6] at k66);have hop : Z3 x (E7 buf got x.Key).1 (E7 buf got x.Key).2.1 buf = buf := (by unfold Z3; rw [D4 k50, D4 k59, D4 k66]);refine R5 ?_;refine G8 i buf (i + 1) (Z3 x (E7 buf got x.Key).1 (E7 buf got x.Key).2.1 buf) ?_ ?_ (Q1 1 ⟨Ar5, rfl, rfl, rfl, rfl, trivial⟩)
  ·exact ⟨by omega, hnx, AK1 hinv.2.2.1, AK3 hso.size D5 hso.by' (.inl hso.key) hgv hinv.2.2.2.1, by have h9 := AK2 (o := x) (v := (E7 buf got x.Key).1) (t := (E7 buf got x.Key).2.1) (buf := buf); omega⟩
  omega
 intro h18;have k18 := C2 h18;have hge : l.length ≤ i := Ba8;have he : Q4 l got = (3, [], buf) := CL1;rw [he];refine R5 ?_;refine A1 rfl (D8 rfl (N9 (l := []) rfl)) ?_;refine R3 ?_;exact X5 rfl D5 AJ1
theorem BH6 (l : List TOp) (v : Value) (got : List H4) (hl : l.length ≤ 1000) (ho : ∀ o ∈ l, Af3 1000 o) (hgot : ∀ g ∈ got, g.size ≤ 1000) : M7 108 [AV.list 4 (l.map TOp.cs), AV.is v] [.arr v 80 3 (got.map H4.cs)] (fun _ : Unit => True) (fun _ => [.arr v 80 3 (got.map H4.cs)]) (fun _ => AV.tup [AV.int (Q4 l got).1, AV.str (Q4 l got).2.1, AV.list 3 ((Q4 l got).2.2.map A4.cs)]) := by
 refine C5 Tryz.func108 rfl Tryz.ntmps108 rfl ?_;refine R3 ?_;refine A1 rfl (D8 rfl (N9 (l := []) rfl)) ?_;refine A1 rfl (D8 rfl (O2 (sz := 3))) ?_;refine R3 ?_;refine A1 rfl (D8 rfl (O2 (sz := 3))) ?_;refine R9 ?_;refine K3 [(1, _), (15, _), (16, _)] _ (fun (i : Nat) (buf : List A4) => i ≤ l.length ∧ Q4 l got = AI9 got buf (l.drop i) ∧ adj T1 buf = true ∧ (∀ w ∈ buf, w.size ≤ 1000) ∧ buf.length ≤ i) (fun i buf => []) (fun i buf => [(7, AV.list 3 (buf.map A4.cs)), (17, AV.int i)]) (fun i buf => l.length - i) (0) ([]) ?_ (F5 A5) ?_
 ·exact ⟨D6 _, rfl, rfl, fun w hw => absurd hw List.not_mem_nil, L5 _⟩
 intro i buf hinv;refine R5 ?_;refine A2 ?_ ?_
 ·intro h18;have k18 := C6 h18;have hlt : i < l.length := Ba8;obtain ⟨x, hx⟩ := B3 hlt;have hso := ho x (C3 hx);have hsv := Bh6 (k := x.Key) hinv.2.2.2.1 hgot;refine R5 ?_;refine A1 rfl (C7 rfl T5 W8 (A0 rfl) (A0 rfl) hx qz3) ?_;refine R2 ?_;intro b9;refine R8 ?_;refine A1 rfl (Ak0 rfl Tryz.call131 rfl (BT4 buf got x.Key) (Bj1 (J8 (AE6 _) (J8 (y5 _) (J8 (y5 _) X2)))) (Z0 (evb (A0 rfl)) (Z0 (Ay9 1 (A0 rfl) rfl) (Z0 (evb (A0 rfl)) AI5)))) ?_;refine R24 ?_;refine A2 ?_ ?_
  ·intro h41;have he : Q4 l got = (1, x.Key, []) := qz157;rw [he];refine R6 ?_;refine C1 rfl rfl (D8 rfl (O2 (sz := 3))) ?_;refine R2 ?_;exact I2 [1] () (trivial) rfl B7 (q8 rfl D5 AJ1)
  intro h41;refine R7 ?_;refine A1 rfl (A9 rfl Tryz.call132 rfl (BZ2 x _ _ qz8 (by have h9 := hso.by'; omega)) (A3 (A0 rfl) (A3 (A0 rfl) (A3 (A0 rfl) B2)))) ?_;refine R1 ?_;refine A2 ?_ ?_
  ·intro h47;have he : Q4 l got = (2, [], []) := qz127;rw [he];refine R3 ?_;refine A1 rfl (D8 rfl (N9 (l := []) rfl)) ?_;refine A1 rfl (D8 rfl (O2 (sz := 3))) ?_;refine R2 ?_;exact I2 [1] () (trivial) rfl B7 (q8 rfl D5 AJ1)
  intro h47;have hgv : AK9 x (E7 buf got x.Key).1 (E7 buf got x.Key).2.1 = false := h47;have hnx : Q4 l got = AI9 got (Z3 x (E7 buf got x.Key).1 (E7 buf got x.Key).2.1 buf) (l.drop (i + 1)) := qz113;refine R12 ?_;refine A2 ?_ ?_
  ·intro h50;have k50 := K6 h50;(try simp only [A6] at k50);have hop : Z3 x (E7 buf got x.Key).1 (E7 buf got x.Key).2.1 buf = ins buf ⟨x.Key, x.Val, false⟩ := (by unfold Z3; rw [D1 k50]);refine R7 ?_;refine A1 rfl (A9 rfl Tryz.call63 rfl (AK6 buf ⟨x.Key, x.Val, false⟩ qz8 hinv.2.2.1) E4) ?_;refine R6 ?_;refine G8 i buf (i + 1) (Z3 x (E7 buf got x.Key).1 (E7 buf got x.Key).2.1 buf) ?_ ?_ (Q1 1 ⟨Ar5, rfl, rfl, rfl, rfl, trivial⟩)
   ·exact ⟨by omega, hnx, AK1 hinv.2.2.1, AK3 hso.size D5 hso.by' (.inl hso.key) hgv hinv.2.2.2.1, by have h9 := AK2 (o := x) (v := (E7 buf got x.Key).1) (t := (E7 buf got x.Key).2.1) (buf := buf); omega⟩
   omega
  intro h50;have k50 := J4 h50;(try simp only [A6] at k50);refine R5 ?_;refine A2 ?_ ?_
  ·intro h59;have k59 := K6 h59;(try simp only [A6] at k59);have hop : Z3 x (E7 buf got x.Key).1 (E7 buf got x.Key).2.1 buf = ins buf ⟨x.Key, [], true⟩ := (by unfold Z3; rw [D4 k50, D1 k59]);refine R5 ?_;refine A1 rfl (A9 rfl Tryz.call63 rfl (AK6 buf ⟨x.Key, [], true⟩ qz8 hinv.2.2.1) E4) ?_;refine R6 ?_;refine G8 i buf (i + 1) (Z3 x (E7 buf got x.Key).1 (E7 buf got x.Key).2.1 buf) ?_ ?_ (Q1 1 ⟨Ar5, rfl, rfl, rfl, rfl, trivial⟩)
   ·exact ⟨by omega, hnx, AK1 hinv.2.2.1, AK3 hso.size D5 hso.by' (.inl hso.key) hgv hinv.2.2.2.1, by have h9 := AK2 (o := x) (v := (E7 buf got x.Key).1) (t := (E7 buf got x.Key).2.1) (buf := buf); omega⟩
   omega
  intro h59;have k59 := J4 h59;(try simp only [A6] at k59);refine R5 ?_;refine A2 ?_ ?_
  ·intro h66;have k66 := K6 h66;(try simp only [A6] at k66);have har := BP6 k66 hso.by' hgv;refine R3 ?_;refine A1 rfl (A9 rfl Tryz.call133 rfl (BH5 _ qz8) (A3 (A0 rfl) B2)) ?_;refine R12 ?_;refine A2 ?_ ?_
   ·intro h74;have hth : (E7 buf got x.Key).2.1 = false := (by simpa using h74);have hadd : BS2 x (E7 buf got x.Key).1 (E7 buf got x.Key).2.1 = 0 + x.By := CK8;rw [hadd] at har;have hop : Z3 x (E7 buf got x.Key).1 (E7 buf got x.Key).2.1 buf = ins buf ⟨x.Key, AH0 (0 + x.By), false⟩ := CL5;refine R11 ?_;refine C1 rfl rfl (A9 rfl Tryz.call134 rfl (An3 _ qz8) (A3 (A0 rfl) B2)) ?_;refine R1 ?_;refine C1 rfl rfl (A9 rfl Tryz.call63 rfl (AK6 buf ⟨x.Key, AH0 _, false⟩ qz8 hinv.2.2.1) E4) ?_;refine R6 ?_;refine G8 i buf (i + 1) (Z3 x (E7 buf got x.Key).1 (E7 buf got x.Key).2.1 buf) ?_ ?_ (Q1 1 ⟨Ar5, rfl, rfl, rfl, rfl, trivial⟩)
    ·exact ⟨by omega, hnx, AK1 hinv.2.2.1, AK3 hso.size D5 hso.by' (.inl hso.key) hgv hinv.2.2.2.1, by have h9 := AK2 (o := x) (v := (E7 buf got x.Key).1) (t := (E7 buf got x.Key).2.1) (buf := buf); omega⟩
    omega
   intro h74;have hth : (E7 buf got x.Key).2.1 = true := (by simpa using h74);have hadd : BS2 x (E7 buf got x.Key).1 (E7 buf got x.Key).2.1 = (l5N (E7 buf got x.Key).1).1 + x.By := CK8;rw [hadd] at har;have hop : Z3 x (E7 buf got x.Key).1 (E7 buf got x.Key).2.1 buf = ins buf ⟨x.Key, AH0 ((l5N (E7 buf got x.Key).1).1 + x.By), false⟩ := CL5;refine R9 ?_;refine C1 rfl rfl (A9 rfl Tryz.call134 rfl (An3 _ qz8) (A3 (A0 rfl) B2)) ?_;refine R1 ?_;refine C1 rfl rfl (A9 rfl Tryz.call63 rfl (AK6 buf ⟨x.Key, AH0 _, false⟩ qz8 hinv.2.2.1) E4) ?_;refine R6 ?_;refine G8 i buf (i + 1) (Z3 x (E7 buf got x.Key).1 (E7 buf got x.Key).2.1 buf) ?_ ?_ (Q1 1 ⟨Ar5, rfl, rfl, rfl, rfl, trivial⟩)
   ·exact ⟨by omega, hnx, AK1 hinv.2.2.1, AK3 hso.size D5 hso.by' (.inl hso.key) hgv hinv.2.2.2.1, by have h9 := AK2 (o := x) (v := (E7 buf got x.Key).1) (t := (E7 buf got x.Key).2.1) (buf := buf); omega⟩
   omega
  intro h66;have k66 := J4 h66;(try simp only [A6] at k66);have hop : Z3 x (E7 buf got x.Key).1 (E7 buf got x.Key).2.1 buf = buf := (by unfold Z3; rw [D4 k50, D4 k59, D4 k66]);refine R5 ?_;refine G8 i buf (i + 1) (Z3 x (E7 buf got x.Key).1 (E7 buf got x.Key).2.1 buf) ?_ ?_ (Q1 1 ⟨Ar5, rfl, rfl, rfl, rfl, trivial⟩)
  ·exact ⟨by omega, hnx, AK1 hinv.2.2.1, AK3 hso.size D5 hso.by' (.inl hso.key) hgv hinv.2.2.2.1, by have h9 := AK2 (o := x) (v := (E7 buf got x.Key).1) (t := (E7 buf got x.Key).2.1) (buf := buf); omega⟩
  omega
 intro h18;have k18 := C2 h18;have hge : l.length ≤ i := Ba8;have he : Q4 l got = (3, [], buf) := CL1;rw [he];refine R5 ?_;refine A1 rfl (D8 rfl (N9 (l := []) rfl)) ?_;refine R3 ?_;exact I2 [0] () (trivial) rfl B7 (q8 rfl D5 AJ1)
theorem Bh7 (rows : List A4) (k : Str) : F6 62 [AV.list 3 (rows.map A4.cs), AV.str k] (AV.agg (Aa0 rows k).cs) := by
 refine B8 Tryz.func62 rfl Tryz.ntmps62 rfl ?_;refine W4 (t := 0) rfl fun hlb => ?_;try simp only [A6] at hlb
 refine R3 ?_;intro b4;refine R9 ?_;refine E9 [(1, _), (4, _), (7, _), (8, _)] _ (fun (i : Nat) => i ≤ rows.length ∧ lookW rows k = (rows.drop i).find? (fun w => w.Key == k)) (fun i => []) (fun i => [(9, AV.int i)]) (fun i => rows.length - i) (0) ?_ (F5 A5) ?_
 ·exact ⟨D6 _, rfl⟩
 intro i hinv;refine R5 ?_;refine A2 ?_ ?_
 ·intro h10;have k10 := C6 h10;have hlt : i < rows.length := Aa1;obtain ⟨x, hx⟩ := B3 hlt;refine R5 ?_;refine A1 rfl (C7 rfl C0 F2 (A0 rfl) (A0 rfl) hx qz3) ?_;refine R2 ?_;intro b6;refine R9 ?_;refine A2 ?_ ?_
  ·intro h16;have he : Aa0 rows k = ⟨k, x.Val, true⟩ := (by unfold Aa0; rw [hinv.2, Al2 hx, D1 h16]);rw [he];refine R9 ?_;exact E5 rfl (H8 (ys := _) 1 rfl rfl AZ1 U3 rfl)
  intro h16;refine R5 ?_;refine F7 i (i + 1) ?_ ?_ (Q1 1 A5)
  ·exact ⟨by omega, by rw [hinv.2, Al2 hx, D4 (by rw [h16]; decide)]⟩
  omega
 intro h10;have k10 := C2 h10;have hge : rows.length ≤ i := Aa1;have he : Aa0 rows k = ⟨k, [], false⟩ := (by unfold Aa0; rw [hinv.2, l6 hge]; rfl);rw [he];refine R8 ?_;exact E5 rfl (H8 (ys := _) 0 rfl rfl AZ1 U3 rfl)
end Go.PQ
namespace Go.PQ
open Go.Proofs
open Go Go.AV Go.M
attribute [local irreducible] OpW OpA OpS AWP J3 K8 K0 OpE J6 H5 J9 Le Ev F8 L6 Z8 Int.tmod IntKind.wrap Q7
structure DealB (d : BF6) : Prop where
  cuts : ∀ k ∈ d.Cuts, k.length ≤ 4611686018427387904
  clen : d.Cuts.length ≤ 1000000
  slen : d.States.length ≤ 10
  olen : d.Orders.length ≤ 1000000
  states : ∀ s ∈ d.States, s.size ≤ 100000
  orders : ∀ o ∈ d.Orders, o.size ≤ 300000
end Go.PQ
namespace Go.PQ
open Go.Proofs
open Go Go.AV Go.M
attribute [local irreducible] OpW OpA OpS AWP J3 K8 K0 OpE J6 H5 J9 Le Ev F8 L6 Z8 Int.tmod IntKind.wrap Q7
end Go.PQ
namespace Go.PQ
open Go.Proofs
open Go Go.AV Go.M
attribute [local irreducible] OpW OpA OpS AWP J3 K8 K0 OpE J6 H5 J9 Le Ev F8 L6 Z8 Int.tmod IntKind.wrap Q7
end Go.PQ
namespace Go.PQ
open Go.Proofs
open Go Go.AV Go.M
attribute [local irreducible] OpW OpA OpS AWP J3 K8 K0 OpE J6 H5 J9 Le Ev F8 L6 Z8 Int.tmod IntKind.wrap Q7
end Go.PQ
namespace Go.PQ
open Go.Proofs
open Go Go.AV Go.M
attribute [local irreducible] OpW OpA OpS AWP J3 K8 K0 OpE J6 H5 J9 Le Ev F8 L6 Z8 Int.tmod IntKind.wrap Q7
theorem w_natc {P : Program} {G : Nat → Prop} {n : Nat} {own : List Go.AV.Own} {o : Oper} {E : N1} {a : Int} (b : Nat) (h : OpW P G n own o E (AV.int a)) (e : a = (b : Int)) : OpW P G n own o E (AV.int (b : Int)) := e ▸ h
end Go.PQ
namespace Go.PQ
open Go.Proofs
open Go Go.AV Go.M
structure DV (d : BF6) : Prop where
  clen : d.Cuts.length ≤ 2
  ckey : ∀ k ∈ d.Cuts, k.length ≤ 64
  slen : d.States.length = d.Cuts.length + 1
  st : ∀ s ∈ d.States, s.size ≤ 15000
  os : ∀ o ∈ d.Orders, orderR o = true ∧ o.size ≤ 1000
  olen : d.Orders.length ≤ 4
attribute [local irreducible] OpW OpA OpS AWP J3 K8 K0 OpE J6 H5 J9 Le Ev F8 L6 Z8 Int.tmod IntKind.wrap Q7
namespace tw3n1
def tw3x0 := @J2
end tw3n1
open tw3n1 in
theorem BF2 (l : List Int) (n : Int) : F6 61 [ints l, AV.int n] (AV.bool (l.any fun y => n == y)) := Ch8
theorem Cp0 (cuts rs : List Str) (ws : List A4) (part : Int) (hr : rs.length ≤ 1000000) (hw : ws.length ≤ 1000000) : M7 236 [strs cuts, strs rs, AV.list 3 (ws.map A4.cs), AV.int part] [] (fun _ : Value × Value => True) (fun v => [.arr v.1 9 1 ((rs.filter (inS cuts part)).map fun t => [AV.str t]), .arr v.2 69 3 ((ws.filter fun w => inS cuts part w.Key).map A4.cs)]) (fun v => AV.tup [AV.is v.1, AV.is v.2]) := by
 have hrl : ∀ i, ((rs.take i).filter (inS cuts part)).length ≤ 1000000 := fun i => L4 (List.length_filter_le _ _) Ba9;have hwl : ∀ i, ((ws.take i).filter fun w => inS cuts part w.Key).length ≤ 1000000 := fun i => L4 (List.length_filter_le _ _) Ba9;refine C5 Tryz.func236 rfl Tryz.ntmps236 rfl ?_;refine R2 ?_;refine A1 rfl (D8 rfl H3) ?_;refine A1 rfl (D8 rfl H3) ?_;refine R3 ?_;refine T6 9 1 rfl rfl rfl rfl H3 ?_;intro v10;refine R3 ?_;refine T6 69 3 rfl rfl rfl rfl H3 ?_;intro v11;refine R9 ?_;refine AWP.le (B9 [1, 0] rfl) ?_;refine K3 [(0, _), (2, _), (3, _), (8, _), (9, _), (11, _), (16, _), (17, _)] _ (fun (i : Nat) (v : Value) => i ≤ rs.length) (fun i v => [.arr v 9 1 (((rs.take i).filter (inS cuts part)).map fun t => [AV.str t]), .arr v11 69 3 []]) (fun i v => [(10, AV.is v), (18, AV.int i)]) (fun i v => rs.length - i) (0) (v10) ?_ (I6 B7 A5) ?_
 ·exact D6 _
 intro i v hinv;refine R5 ?_;refine A2 ?_ ?_
 ·intro h19;have k19 := C6 h19;have hlt : i < rs.length := by (simpa using h19)
  obtain ⟨x, hx⟩ := B3 hlt;have hri := hrl i;refine R5 ?_;refine A1 rfl (C7 rfl G9 M4 (A0 rfl) (A0 rfl) hx qz3) ?_;refine R7 ?_;refine A1 rfl (A9 rfl Tryz.call156 rfl (Ac4 _ _) E4) ?_;refine R3 ?_;refine A2 ?_ ?_
  ·intro h26;refine R4 ?_;refine H0 (by' := 16) 0 rfl rfl rfl rfl G9 Tryz.type9 rfl rfl rfl rfl rfl rfl (A0 rfl) (A0 rfl) rfl qz3 ?_;intro v30_1;refine R6 ?_;refine G8 i v (i + 1) (v30_1) ?_ ?_ (Le.trans (B9 [0, 0] rfl) (I6 qz111 A5))
   ·exact qz8
   omega
  intro h26;refine R5 ?_;refine G8 i v (i + 1) (v) ?_ ?_ (Le.trans (B9 [0, 0] rfl) (I6 qz111 A5))
  ·exact qz8
  omega
 intro h19;have k19 := C2 h19;have hge : rs.length ≤ i := by (simpa using h19)
 rw [U1 hge];refine R9 ?_;refine AWP.le (B9 [1, 0] rfl) ?_;refine K3 [(0, _), (3, _), (8, _), (9, _), (10, _), (32, _), (33, _)] _ (fun (j : Nat) (u : Value) => j ≤ ws.length) (fun j u => [.arr u 69 3 (((ws.take j).filter fun w => inS cuts part w.Key).map A4.cs), .arr v 9 1 ((rs.filter (inS cuts part)).map fun t => [AV.str t])]) (fun j u => [(11, AV.is u), (34, AV.int j)]) (fun j u => ws.length - j) (0) (v11) ?_ (I6 B7 A5) ?_
 ·exact D6 _
 intro j u hinv;refine R5 ?_;refine A2 ?_ ?_
 ·intro h35;have k35 := C6 h35;have hltj : j < ws.length := by (simpa using h35)
  obtain ⟨y, hy⟩ := B3 hltj;have hwj := hwl j;refine R5 ?_;refine A1 rfl (C7 rfl C0 F2 (A0 rfl) (A0 rfl) hy qz3) ?_;refine R2 ?_;intro b15;refine R7 ?_;refine A1 rfl (A9 rfl Tryz.call156 rfl (Ac4 _ _) E4) ?_;refine R3 ?_;refine A2 ?_ ?_
  ·intro h43;refine R4 ?_;refine H0 (by' := 40) 1 rfl rfl rfl rfl C0 Tryz.type69 rfl rfl rfl rfl rfl rfl (A0 rfl) (A0 rfl) rfl qz3 ?_;intro v47_2;refine R6 ?_;refine G8 j u (j + 1) (v47_2) ?_ ?_ (Le.trans (B9 [0, 0, 0] rfl) (E8 1 qz107 A5))
   ·exact qz8
   omega
  intro h43;refine R5 ?_;refine G8 j u (j + 1) (u) ?_ ?_ (Le.trans (B9 [0, 0, 0] rfl) (E8 1 qz107 A5))
  ·exact qz8
  omega
 intro h35;have k35 := C2 h35;have hgej : ws.length ≤ j := by (simpa using h35)
 rw [U1 hgej];refine R9 ?_;exact I2 [1, 0] (v, u) (trivial) rfl B7 AJ2
theorem Cp1 (cuts rs : List Str) (ws : List A4) (part : Int) (hr : rs.length ≤ 1000000) (hw : ws.length ≤ 1000000) : F6 236 [strs cuts, strs rs, AV.list 3 (ws.map A4.cs), AV.int part] (AV.tup [strs (rs.filter (inS cuts part)), AV.list 3 ((ws.filter fun w => inS cuts part w.Key).map A4.cs)]) :=
  N7 (Cp0 cuts rs ws part hr hw) fun v _ => AU0 (E2 (M1 (C3 (i := 0) rfl) G6) (E2 (M1 (C3 (i := 1) rfl) G6) o5))
end Go.PQ
namespace Go.PQ
open Go.Proofs
open Go Go.AV Go.M
attribute [local irreducible] OpW OpA OpS AWP J3 K8 K0 OpE J6 H5 J9 Le Ev F8 L6 Z8 Int.tmod Int.tdiv IntKind.wrap Q7
theorem CG5 (cuts : List Str) (t : B1) (y : Value × Value) (hb : SetB t) : M7 107 [strs cuts, AV.agg (B1.ocs t y)] (B1.ow t y) (fun _ : Unit => True) (fun _ => B1.ow t y) (fun _ => AV.tup [strs (l5 t.Got), AV.list 3 ((Q4 t.Ops t.Got).2.2.map A4.cs), ints (AO8 cuts t), AV.bool (Ah0 t)]) := by
 have hgl := hb.got.1;have hrl := Ax8 t.Got;have hst := ran (got := t.Got) (n := 1000) D5 hb.ops;have hwl : (Q4 t.Ops t.Got).2.2.length ≤ 1000 := L4 hst.len (by have := hb.len; omega);obtain ⟨S, hS⟩ : ∃ S, Q4 t.Ops t.Got = S := ⟨_, rfl⟩;have hstep := BH6 t.Ops y.1 t.Got hb.len hb.ops hb.got.2;have hbq : Ah0 t = ((Q4 t.Ops t.Got).1 == 3 && decide (0 < ((((l5 t.Got).map fun t => [AV.str t]).length : Nat) : Int) + ((((Q4 t.Ops t.Got).2.2.map A4.cs).length : Nat) : Int))) := by unfold Ah0; simp only [A6]
 rw [hbq];unfold AO8;rw [hS] at hstep hwl ⊢;have hkl := BE5 (l5 t.Got ++ U0 S.2.2);rw [G3, show (U0 S.2.2).length = S.2.2.length from A6 ..] at hkl;refine C5 Tryz.func107 rfl Tryz.ntmps107 rfl ?_;refine R3 ?_;intro b3;refine A1 rfl (D8 rfl H3) ?_;refine A1 rfl (D8 rfl H3) ?_;refine A1 rfl (D8 rfl H3) ?_;refine R8 ?_;refine E6 [1] rfl rfl rfl rfl Tryz.call108 rfl (hstep) E4 rfl ?_;intro x19 ok19;refine R10 ?_;refine T6 9 1 rfl rfl rfl rfl H3 ?_;intro v11;refine R10 ?_;refine AWP.le (B9 [0, 0] rfl) ?_;refine K3 [(0, _), (4, _), (5, _), (6, _), (7, _), (8, _), (10, _), (24, _), (25, _)] _ (fun (i : Nat) (v : Value) => i ≤ t.Got.length) (fun i v => [.arr v 9 1 ((l5 (t.Got.take i)).map fun t => [AV.str t]), .arr y.1 80 3 (t.Got.map H4.cs)]) (fun i v => [(11, AV.is v), (26, AV.int i)]) (fun i v => t.Got.length - i) (0) (v11) ?_ (I6 B7 A5) ?_
 ·exact D6 _
 intro i v hinv;refine R5 ?_;refine A2 ?_ ?_
 ·intro h27;have k27 := C6 h27;have hlt : i < t.Got.length := (by simpa using h27);obtain ⟨g, hg⟩ := B3 hlt;have hrs := Br5 (t.Got.take i);have hrn := Ax8 (t.Got.take i);rw [I5] at hrn;refine R5 ?_;refine A1 rfl (H6 1 rfl M9 U3 (A0 rfl) rfl (A0 rfl) qz8 AG1) ?_;refine A1 rfl (n2 1 rfl (A0 rfl) rfl AZ1 U3 (by first | exact (P0 hg) | exact B0 ((P0 hg)) | exact B0 (B0 ((P0 hg))) | exact B0 (B0 (B0 ((P0 hg)))) | exact B0 (B0 (B0 (B0 ((P0 hg))))) | exact B0 (B0 (B0 (B0 (B0 ((P0 hg))))))) D5) ?_;refine R1 ?_;intro b13;refine R6 ?_;refine E6 [1] rfl rfl rfl rfl Tryz.call128 rfl (AW8 v (l5 (t.Got.take i)) g.Key hrs qz8) E4 rfl ?_;intro x33 ok33;refine R6 ?_;refine G8 i v (i + 1) (x33) ?_ ?_ (Le.trans (B9 [1, 0, 0] rfl) (E8 1 (by (rw [Br6 hg]; rfl)) A5))
  ·exact qz8
  omega
 intro h27;have k27 := C2 h27;have hge : t.Got.length ≤ i := (by simpa using h27);rw [U1 hge];refine R2 ?_;refine AWP.le (z8 [0] 11 rfl rfl (M1 (C3 (i := 0) rfl) G6) (z7 0 rfl rfl (z7 2 rfl rfl Q2))) ?_;refine R6 ?_;refine A1 rfl (A9 rfl Tryz.call130 rfl (BS8 (l5 t.Got) S.2.2 qz8 qz8) E4) ?_;refine A1 rfl (A9 rfl Tryz.call129 rfl (BS9 cuts _ qz8) (A3 (A0 rfl) (A3 (A0 rfl) B2))) ?_;refine R16 ?_;exact I2 [0, 1] () (trivial) rfl B7 (q8 rfl D5 (H7 (A7 rfl B7) AJ1))
end Go.PQ
namespace Go.PQ
open Go.Proofs
open Go Go.AV Go.M
attribute [local irreducible] OpW OpA OpS AWP J3 K8 K0 OpE J6 H5 J9 Le Ev F8 L6 Z8 Int.tmod Int.tdiv IntKind.wrap Q7
theorem Cd8 (rows : List A4) (l : List TOp) (hr : ∀ w ∈ rows, w.size ≤ 64) (hl : l.length ≤ 8) (ho : ∀ o ∈ l, OpD o) : M7 82 [AV.list 3 (rows.map A4.cs), AV.list 4 (l.map TOp.cs)] [] (fun x : (List H4 × Int) × Value => Ai3 l x.1.1) (fun x => [.arr x.2 80 3 (x.1.1.map H4.cs)]) (fun x => AV.tup [AV.is x.2, AV.list 3 ((Q4 l x.1.1).2.2.map A4.cs), AV.bool ((Q4 l x.1.1).1 == 3)]) := by
 have hso : ∀ o ∈ l, Af3 64 o := fun o h => CG3 (ho o h);have hso2 : ∀ o ∈ l, Af3 1000 o := fun o h => ⟨L4 (hso o h).size D5, (hso o h).by', (hso o h).key⟩;refine C5 Tryz.func82 rfl Tryz.ntmps82 rfl ?_;refine R2 ?_;refine A1 rfl (D8 rfl H3) ?_;refine A1 rfl (D8 rfl H3) ?_;refine R4 ?_;refine T6 80 3 rfl rfl rfl rfl H3 ?_;intro v7;refine R2 ?_;refine AWP.le (B9 [0] rfl) ?_;refine K3 [(0, _), (1, _)] _ (fun (got : List H4) (v : Value) => Ai3 l got) (fun got v => [.arr v 80 3 (got.map H4.cs)]) (fun got v => [(7, AV.is v)]) (fun got v => l.length - got.length) ([]) (v7) ?_ (I6 B7 A5) ?_
 ·exact Ai3.nil l
 intro got v hinv;have hgl := hinv.len;refine R5 ?_;refine E6 [0] rfl rfl rfl rfl Tryz.call108 rfl (BH6 l v got qz8 hso2 (fun g hg => L4 (hinv.size g hg) D5)) E4 rfl ?_;intro x14 ok14;refine R14 ?_;refine A2 ?_ ?_
 ·intro h19;refine R11 ?_;exact I2 [0] (((got, 0), v)) (hinv) rfl B7 (q8 rfl D5 AJ1)
 intro h19;have hask : (Q4 l got).1 = 1 := (by simpa using h19);have hrn := (ran (got := got) (n := 64) D5 hso).ask hask;obtain ⟨⟨o, hom, hok⟩, hnk⟩ := hrn;have hkl : (Q4 l got).2.1.length ≤ 64 := (by rw [← hok]; have h9 := (hso o hom).key; omega);have hts := Cx7 (rows := rows) hr hkl;have hnx : Ai3 l (got ++ [Aa0 rows (Q4 l got).2.1]) := hinv.snoc (by rw [hts.2, ← hok]; exact n8.2 ⟨o, hom, rfl⟩) (fun x hx => by rw [hts.2]; exact hnk x hx) qz8;refine R5 ?_;refine A1 rfl (A9 rfl Tryz.call62 rfl (Bh7 rows _) E4) ?_;refine R1 ?_;refine H0 (by' := 40) 0 rfl rfl rfl rfl M9 Tryz.type80 rfl rfl rfl rfl rfl rfl (A0 rfl) (A0 rfl) rfl Az6 ?_;intro v29_1;refine R2 ?_;refine Ab1 ?_;refine G8 got v (got ++ [Aa0 rows (Q4 l got).2.1]) (v29_1) ?_ ?_ (Le.trans (B9 [0] rfl) (I6 BC8 A5))
 ·exact hnx
 (rw [G3]; simp; have h9 := hnx.len; rw [G3] at h9; simp at h9; omega)
theorem CJ8 (w : E0) (hw : WI w) : M7 105 [AV.agg w.cs] [] (fun _ : Value => True) (fun v => [.arr v 172 4 ((w.Groups.map Ag8).map H2.cs)]) (fun v => AV.is v) := by
 have hng := hw.n;refine C5 Tryz.func105 rfl Tryz.ntmps105 rfl ?_;refine R3 ?_;intro b1;refine A1 rfl (D8 rfl H3) ?_;refine R3 ?_;refine T6 172 4 rfl rfl rfl rfl H3 ?_;intro v3;refine R10 ?_;refine AWP.le (B9 [0] rfl) ?_;refine K3 [(2, _), (7, _), (8, _)] _ (fun (i : Nat) (v : Value) => i ≤ w.Groups.length) (fun i v => [.arr v 172 4 (((w.Groups.take i).map Ag8).map H2.cs)]) (fun i v => [(3, AV.is v), (9, AV.int i)]) (fun i v => w.Groups.length - i) (0) (v3) ?_ (I6 B7 A5) ?_
 ·exact D6 _
 intro i v hinv;refine R5 ?_;refine A2 ?_ ?_
 ·intro h10;have k10 := C6 h10;have hlt : i < w.Groups.length := Aa1;obtain ⟨g, hg⟩ := B3 hlt;have hgg := (hw.groups g (C3 hg)).good;refine R5 ?_;refine A1 rfl (C7 rfl I0 D3 (A0 rfl) (A0 rfl) hg qz3) ?_;refine R2 ?_;intro b5;refine R5 ?_;refine A1 rfl (A9 rfl Tryz.call126 rfl (BY9 g hgg) L2) ?_;refine R1 ?_;refine H0 (by' := 80) 1 rfl rfl rfl rfl Tryz.underlying129 Tryz.type172 rfl rfl rfl rfl rfl rfl (A0 rfl) (A0 rfl) rfl (by rw [A6, A6, I5]; simp only [S2]; omega) ?_;intro v17_1;refine R6 ?_;refine G8 i v (i + 1) (v17_1) ?_ ?_ (Le.trans (B9 [0, 0] rfl) (E8 1 (by (rw [V7, hg, V1, V1]; rfl)) A5))
  ·exact qz8
  omega
 intro h10;have k10 := C2 h10;have hge : w.Groups.length ≤ i := Aa1;rw [U1 hge];refine R7 ?_;exact I2 [0] v (trivial) rfl B7 K5
theorem Bs0 (w : E0) (hw : WI w) : F6 105 [AV.agg w.cs] (AV.list 4 ((w.Groups.map Ag8).map H2.cs)) :=
  N7 (CJ8 w hw) fun v _ => M1 (V8.2 rfl) G6
theorem CW6 (ss : List H2) (n : Int) (hl : ss.length ≤ 10) (hs : ∀ s ∈ ss, s.Told.length ≤ 100) : M7 106 [AV.list 4 (ss.map H2.cs), AV.int n] [] (fun x : (List P5 × Bool) × Value => x.1.1.length ≤ 10) (fun x => [.arr x.2 137 3 (x.1.1.map P5.cs)]) (fun x => AV.tup [AV.is x.2, AV.bool x.1.2]) := by
 refine C5 Tryz.func106 rfl Tryz.ntmps106 rfl ?_;refine R2 ?_;refine A1 rfl (D8 rfl H3) ?_;refine R4 ?_;refine T6 137 3 rfl rfl rfl rfl H3 ?_;intro v6;refine R9 ?_;refine AWP.le (B9 [0] rfl) ?_;refine V5 [(1, _), (4, _), (5, _), (13, _), (14, _)] _ (fun (i : Nat) (tl : List P5) (v : Value) => i ≤ ss.length ∧ tl.length ≤ i) (fun i tl v => [.arr v 137 3 (tl.map P5.cs)]) (fun i tl v => [(6, AV.is v), (15, AV.int i)]) (fun i tl v => ss.length - i) (0) ([]) (v6) ?_ (I6 B7 A5) ?_
 ·exact ⟨D6 _, L5 _⟩
 intro i tl v hinv;refine R5 ?_;refine A2 ?_ ?_
 ·intro h16;have k16 := C6 h16;have hlt : i < ss.length := Ba7;obtain ⟨s, hsx⟩ := B3 hlt;have hst := hs s (C3 hsx);refine R5 ?_;refine A1 rfl (C7 rfl Tryz.underlying129 T0 (A0 rfl) (A0 rfl) hsx qz3) ?_;refine R2 ?_;intro b8;refine R6 ?_;refine A1 rfl (A9 rfl Tryz.call127 rfl (AK5 s n qz8) E4) ?_;refine R4 ?_;intro b9;refine R7 ?_;refine A2 ?_ ?_
  ·intro h25;refine R4 ?_;refine H0 (by' := 24) 2 rfl rfl rfl rfl N3 Tryz.type137 rfl rfl rfl rfl rfl rfl (A0 rfl) (A0 rfl) rfl Az6 ?_;intro v29_1;refine R6 ?_;refine P2 i tl v (i + 1) (tl ++ [(AY6 s.Told n).1]) (v29_1) ?_ ?_ (Le.trans (B9 [0, 0, 0] rfl) (E8 2 Az5 A5))
   ·exact ⟨by omega, by rw [G3]; simp; omega⟩
   omega
  intro h25;refine R5 ?_;refine P2 i tl v (i + 1) (tl) (v) ?_ ?_ (Le.trans (B9 [0, 0, 0] rfl) (E8 2 Az5 A5))
  ·exact ⟨by omega, by omega⟩
  omega
 intro h16;have k16 := C2 h16;refine R9 ?_;refine AWP.le (B9 [0] rfl) ?_;refine E9 [(6, _), (31, _), (32, _)] _ (fun (j : Nat) => j ≤ tl.length) (fun j => [.arr v 137 3 (tl.map P5.cs)]) (fun j => [(33, AV.int j)]) (fun j => tl.length - j) (0) ?_ (I6 B7 A5) ?_
 ·exact D6 _
 intro j hinv;refine R5 ?_;refine A2 ?_ ?_
 ·intro h34;have k34 := C6 h34;have hlt1 : j < tl.length := (by simpa using h34);obtain ⟨x, hx⟩ := B3 hlt1;obtain ⟨x0, hx0⟩ := B3 (show 0 < tl.length by omega);refine R5 ?_;refine A1 rfl (H6 0 rfl N3 U6 (A0 rfl) rfl (A0 rfl) qz8 AG1) ?_;refine A1 rfl (n2 0 rfl (A0 rfl) rfl Tryz.isAgg137 U6 qz55 D5) ?_;refine R1 ?_;intro b12;refine R6 ?_;refine C1 rfl rfl (H6 1 rfl N3 U6 (A0 rfl) rfl I7 qz8 AG1) ?_;refine C1 rfl rfl (n2 1 rfl (A0 rfl) rfl Tryz.isAgg137 U6 qz55 D5) ?_;refine C1 rfl rfl (BU9 rfl Tryz.underlying137 E3 E3 (A0 rfl) (A0 rfl) (AE7 E3 P4 rfl rfl (Ce9 i6) (AE7 E3 AA3 rfl rfl (BA2 T9) (AE7 E3 P4 rfl rfl (Ce9 i6) BI7)))) ?_;refine R1 ?_;refine A2 ?_ ?_
  ·intro h41;refine R2 ?_;refine A1 rfl (D8 rfl H3) ?_;refine R3 ?_;refine AD1 137 3 ?_;exact I2 [0] ((([], false), F9)) ((by first | exact D6 _ | (show tl.length ≤ 10; omega))) rfl B7 (q8 rfl D5 (H7 (A7 rfl B7) (H7 (A7 rfl B7) l9)))
  intro h41;refine R5 ?_;refine F7 j (j + 1) ?_ ?_ (Le.trans (B9 [0, 0] rfl) (E8 1 B7 A5))
  ·exact qz8
  omega
 intro h34;have k34 := C2 h34;refine R8 ?_;exact I2 [0] (((tl, true), v)) ((by first | exact D6 _ | (show tl.length ≤ 10; omega))) rfl B7 (q8 rfl D5 (H7 (A7 rfl B7) (H7 (A7 rfl B7) l9)))
theorem CJ9 (ss : List H2) (n : Int) (hl : ss.length ≤ 10) (hs : ∀ s ∈ ss, s.Told.length ≤ 100) : M7 106 [AV.list 4 (ss.map H2.cs), AV.int n] [] (fun x : List P5 × Bool => x.1.length ≤ 10) (fun _ => []) (fun x => AV.tup [AV.list 3 (x.1.map P5.cs), AV.bool x.2]) :=
  AS2 (fun x => x.1) (fun x => [.arr x.2 137 3 (x.1.1.map P5.cs)]) (fun _ => []) (CW6 ss n hl hs) (fun _ h => h) (fun x _ => AU0 (E2 (M1 (V8.2 rfl) G6) (E2 J0 o5))) (fun x _ => by rw [S1]) (fun _ _ => Q2) (fun x _ => BA6)
theorem Cp2 (cuts : List Str) (t : B1) (hb : SetB t) : F6 107 [strs cuts, AV.agg t.cs] (AV.tup [strs (l5 t.Got), AV.list 3 ((Q4 t.Ops t.Got).2.2.map A4.cs), ints (AO8 cuts t), AV.bool (Ah0 t)]) := by
 have hgl := hb.got.1;have hrl := Ax8 t.Got;have hst := ran (got := t.Got) (n := 1000) D5 hb.ops;have hwl : (Q4 t.Ops t.Got).2.2.length ≤ 1000 := L4 hst.len (by have := hb.len; omega);obtain ⟨S, hS⟩ : ∃ S, Q4 t.Ops t.Got = S := ⟨_, rfl⟩;have hstep := Cd7 t.Ops t.Got hb.len hb.ops hb.got.2;have hbq : Ah0 t = ((Q4 t.Ops t.Got).1 == 3 && decide (0 < ((((l5 t.Got).map fun t => [AV.str t]).length : Nat) : Int) + ((((Q4 t.Ops t.Got).2.2.map A4.cs).length : Nat) : Int))) := by unfold Ah0; simp only [A6]
 rw [hbq];unfold AO8;rw [hS] at hstep hwl ⊢;have hkl := BE5 (l5 t.Got ++ U0 S.2.2);rw [G3, show (U0 S.2.2).length = S.2.2.length from A6 ..] at hkl;refine B8 Tryz.func107 rfl Tryz.ntmps107 rfl ?_;refine R3 ?_;intro b3;refine A1 rfl (D8 rfl (O2 (sz := 1))) ?_;refine A1 rfl (D8 rfl (O2 (sz := 3))) ?_;refine A1 rfl (D8 rfl (O2 (sz := 1))) ?_;refine R8 ?_;refine A1 rfl (A9 rfl Tryz.call108 rfl (hstep) E4) ?_;refine R10 ?_;refine T6 9 1 rfl rfl rfl rfl H3 ?_;intro v11;refine R10 ?_;refine AWP.le (B9 [0] rfl) ?_;refine K3 [(0, _), (4, _), (5, _), (6, _), (7, _), (8, _), (10, _), (24, _), (25, _)] _ (fun (i : Nat) (v : Value) => i ≤ t.Got.length) (fun i v => [.arr v 9 1 ((l5 (t.Got.take i)).map fun t => [AV.str t])]) (fun i v => [(11, AV.is v), (26, AV.int i)]) (fun i v => t.Got.length - i) (0) (v11) ?_ (I6 B7 A5) ?_
 ·exact D6 _
 intro i v hinv;refine R5 ?_;refine A2 ?_ ?_
 ·intro h27;have k27 := C6 h27;have hlt : i < t.Got.length := (by simpa using h27);obtain ⟨g, hg⟩ := B3 hlt;have hrs := Br5 (t.Got.take i);have hrn := Ax8 (t.Got.take i);rw [I5] at hrn;refine R5 ?_;refine A1 rfl (C7 rfl M9 U3 (A0 rfl) (A0 rfl) hg qz3) ?_;refine R2 ?_;intro b13;refine R6 ?_;refine E6 [1] rfl rfl rfl rfl Tryz.call128 rfl (AW8 v (l5 (t.Got.take i)) g.Key hrs qz8) E4 rfl ?_;intro x33 ok33;refine R6 ?_;refine G8 i v (i + 1) (x33) ?_ ?_ (Le.trans (B9 [1, 0] rfl) (E8 1 (by (rw [Br6 hg]; rfl)) A5))
  ·exact qz8
  omega
 intro h27;have k27 := C2 h27;have hge : t.Got.length ≤ i := (by simpa using h27);rw [U1 hge];refine R2 ?_;refine AWP.le (z8 [0] 11 rfl rfl (M1 (C3 (i := 0) rfl) G6) Ak5) ?_;refine R6 ?_;refine A1 rfl (A9 rfl Tryz.call130 rfl (BS8 (l5 t.Got) S.2.2 qz8 qz8) E4) ?_;refine A1 rfl (A9 rfl Tryz.call129 rfl (BS9 cuts _ qz8) (A3 (A0 rfl) (A3 (A0 rfl) B2))) ?_;refine R16 ?_;exact X5 rfl D5 (H7 (A7 rfl B7) AJ1)
end Go.PQ
namespace Go.PQ
open Go.Proofs
open Go Go.AV Go.M
attribute [local irreducible] OpW OpA OpS AWP J3 K8 K0 OpE J6 H5 J9 Le Ev F8 L6 Z8 Int.tmod Int.tdiv IntKind.wrap Q7
theorem Cp3 (b : Nat) (w : E0) (X : WX) (T : List (Value × Value)) (L : List Value) (t : Int) (told : P5) (lead : Int) (gi : C8) (hw : WI w) (hq : ∀ tx, w.Txns[(t - 1).toNat]? = some tx → 0 ≤ tx.Begin ∧ tx.Begin < w.Count) (hT : T.length = w.Txns.length) (ht : 1 ≤ t ∧ (t - 1).toNat < w.Txns.length) (h0 : 0 ≤ lead) (hx : w.Groups[lead.toNat]? = some gi) (hl : 0 ≤ gi.Lead) : M7 230 [AV.ptr b 0, AV.int t, AV.agg told.cs, AV.int lead] (WB b w X T L) (fun v : E0 × Bool => WF w v.1) (fun v => WB b v.1 X T L) (fun v => AV.bool v.2) := by
 have htn := hw.txns.1;obtain ⟨c, hc, hcg, hl3, hg2, hnow, hsl, hsh⟩ := BQ9 hw h0 hx hl;obtain ⟨tx, htx⟩ := B3 ht.2;obtain ⟨y, hy⟩ := B3 (show (t - 1).toNat < T.length by omega);have hls := Aw0 b w X T L lead gi c hx qz8 qz8 hc hcg hnow;have hwf := wf_fin hw htx (hq tx htx) told;obtain ⟨W', hW⟩ : ∃ W', AH9 w (t - 1).toNat (Bu1 tx told w.Count) = W' := ⟨_, rfl⟩;rw [hW] at hwf;have hfr := BQ7 b W' X T L t hwf.wi;refine C5 Tryz.func230 rfl Tryz.ntmps230 rfl ?_;refine R3 ?_;intro b6;refine R11 ?_;refine A1 rfl (H6 6 rfl M5 S4 (A0 rfl) rfl (A0 rfl) qz8 (by rw [W7 hT]; omega)) ?_;refine R12 ?_;refine O6 rfl (P8 rfl rfl rfl) (fun hc => n3 [1, 1, 1, 1, 1, 1, 1] 1 (nwZ w T L) ([]) rfl Tryz.call232 rfl rfl (B6) (hls) (A3 (A8 rfl hc) (A3 (A8 rfl hc) B2))) ?_;refine O6 rfl (P8 rfl rfl rfl) (fun hc => Bm7 rfl Tryz.underlying217 rfl P4 (A8 rfl hc) rfl) ?_;refine R3 ?_;refine A2 ?_ ?_
 ·intro h28;refine R5 ?_;exact I3 [1, 1, 1, 1, 1, 1, 1] 1 (nwZ w T L) [] ((w, false)) ((by first | exact WF.refl hw | exact hwf.trans (As5 hwf.wi ok49))) rfl (show List.Perm (nwZ w T L) ((nwZ w T L) ++ []) from B6) B7 K5
 intro h28;refine R6 ?_;refine A1 rfl (X1 6 rfl (A0 rfl) rfl qz2 rfl) ?_;refine A1 rfl (L0 6 rfl I8 rfl S0 (A0 rfl) rfl rfl qz2) ?_;refine X3 6 rfl rfl rfl (A0 rfl) (A0 rfl) (AT6 _) rfl S0 qz2 rfl ?_;refine R6 ?_;refine A1 rfl (X1 6 rfl (A0 rfl) rfl qz2 rfl) ?_;refine A1 rfl (L0 6 rfl I8 rfl D0 (A0 rfl) rfl rfl qz2) ?_;refine X3 6 rfl rfl rfl (A0 rfl) (A0 rfl) (Z2 _ _) rfl D0 qz2 rfl ?_;refine R9 ?_;refine A1 rfl (X1 6 rfl (A0 rfl) rfl qz2 rfl) ?_;refine A1 rfl (L0 6 rfl I8 rfl D0 (A0 rfl) rfl rfl qz2) ?_;refine X3 6 rfl rfl rfl (A0 rfl) (A0 rfl) (Z2 _ _) rfl D0 qz2 rfl ?_;refine R2 ?_;refine K2 (show _ = Go.AV.Own.box b6 137 told.cs :: WB b W' X T L from (by rw [← hW]; unfold WB AH9; dsimp only; simp only [BR4]; rw [AJ4 htx hy, Ac5 (p' := Bu1 tx told w.Count) htx (fun _ => rfl)]; rfl)) ?_;refine R3 ?_;refine J7 [1, 1, 1, 1, 1, 1, 1] 1 7 (nin B1.ow W'.Txns T ++ nin B5.ow W'.Looks L) ([]) (fun zz => nin B1.ow W'.Txns T ++ nin B5.ow W'.Looks L) rfl rfl rfl rfl Tryz.call185 rfl rfl (show List.Perm (nin B1.ow W'.Txns T ++ nin B5.ow W'.Looks L) ((nin B1.ow W'.Txns T ++ nin B5.ow W'.Looks L) ++ ([])) from B6) (hfr) E4 (fun a => L9) ?_;intro x49 ok49;refine R6 ?_;exact I3 [0, 0, 0, 0, 0, 0, 0] 1 (nin B1.ow W'.Txns T ++ nin B5.ow W'.Looks L) [] ((AR8 W' x49, true)) ((by first | exact WF.refl hw | exact hwf.trans (As5 hwf.wi ok49))) rfl (show List.Perm (nin B1.ow W'.Txns T ++ nin B5.ow W'.Looks L) ((nin B1.ow W'.Txns T ++ nin B5.ow W'.Looks L) ++ []) from B6) B7 K5
theorem CW7 (b : Nat) (w : E0) (X : WX) (T : List (Value × Value)) (L : List Value) (t lead : Int) (gi : C8) (hw : WI w) (hq : ∀ tx, w.Txns[(t - 1).toNat]? = some tx → 0 ≤ tx.Begin ∧ tx.Begin < w.Count) (hT : T.length = w.Txns.length) (ht : 1 ≤ t ∧ (t - 1).toNat < w.Txns.length) (h0 : 0 ≤ lead) (hx : w.Groups[lead.toNat]? = some gi) : M7 216 [AV.ptr b 0, AV.int t, AV.int lead] (WB b w X T L) (fun v : E0 × Bool × Bool => WF w v.1) (fun v => WB b v.1 X T L) (fun v => AV.tup [AV.bool v.2.1, AV.bool v.2.2]) := by
 have hgi := hw.groups gi (C3 hx);have hng := hw.n;have hgl := (F4.1 hx).1;refine C5 Tryz.func216 rfl Tryz.ntmps216 rfl ?_;refine R14 ?_;refine A1 rfl (H6 2 rfl I0 D3 (A0 rfl) rfl (A0 rfl) qz8 AG1) ?_;refine A1 rfl (n2 2 rfl (A0 rfl) rfl M3 D3 qz5 D5) ?_;refine A1 rfl (A9 rfl Tryz.call187 rfl (AH7 gi hgi.good) L2) ?_;refine R2 ?_;refine A2 ?_ ?_
 ·intro h19;refine R6 ?_;exact I3 [0, 0, 0, 0, 0, 0, 0] 0 (nwZ w T L) [] ((w, false, false)) ((by first | exact WF.refl hw | exact ok34)) rfl (show List.Perm (nwZ w T L) ((nwZ w T L) ++ []) from B6) B7 AJ2
 intro h19;have hrd : AO5 gi = true := (by simpa using h19);have hl := AJ3 hrd;have hgs := Ah5 hgi.good hl;have htl := hgs.tlen;refine R5 ?_;refine A1 rfl (n3 [0, 0, 0, 0, 0, 0, 0] 0 (nwZ w T L) ([]) rfl Tryz.call189 rfl rfl (B6) (Al0 b w X T L lead gi hx h0 hgi.good hl) E4) ?_;refine R1 ?_;refine A1 rfl (A9 rfl Tryz.call127 rfl (AK5 (Y9 gi) t qz8) E4) ?_;refine R4 ?_;intro b8;refine R9 ?_;refine A2 ?_ ?_
 ·intro h29;refine R6 ?_;exact I3 [1, 1, 1, 1, 1, 1, 1] 1 (nwZ w T L) [] ((w, false, false)) ((by first | exact WF.refl hw | exact ok34)) rfl (show List.Perm (nwZ w T L) ((nwZ w T L) ++ []) from B6) B7 AJ2
 intro h29;refine R7 ?_;refine J7 [1, 1, 1, 1, 1, 1, 1] 1 7 (nwZ w T L) ([]) (fun zz => nwZ zz.1 T L) rfl rfl rfl rfl Tryz.call230 rfl rfl (show List.Perm (nwZ w T L) ((nwZ w T L) ++ ([])) from B6) (Cp3 b w X T L t _ lead gi hw hq hT ht h0 hx hl) BI4 (fun a => L9) ?_;intro x34 ok34;refine R4 ?_;exact I3 [0, 0, 0, 0, 0, 0, 0] 1 (nwZ x34.1 T L) [] ((x34.1, x34.2, true)) ((by first | exact WF.refl hw | exact ok34)) rfl (show List.Perm (nwZ x34.1 T L) ((nwZ x34.1 T L) ++ []) from B6) B7 AJ2
theorem Cp4 (b : Nat) (w : E0) (X : WX) (T : List (Value × Value)) (L : List Value) (t lead : Int) (yes : Bool) (times : List Int) (gi : C8) (hw : WI w) (h0 : 0 ≤ lead) (hx : w.Groups[lead.toNat]? = some gi) : M7 217 [AV.ptr b 0, AV.int t, AV.int lead, AV.bool yes, ints times] (WB b w X T L) (fun v : C8 × Bool => WG v.1) (fun v => WB b (Y5 w lead.toNat v.1) X T L) (fun v => AV.bool v.2) := by
 have hgi := hw.groups gi (C3 hx);have hng := hw.n;have hgl := (F4.1 hx).1;refine C5 Tryz.func217 rfl Tryz.ntmps217 rfl ?_;refine R13 ?_;refine A1 rfl (H6 2 rfl I0 D3 (A0 rfl) rfl (A0 rfl) qz8 AG1) ?_;refine A1 rfl (n2 2 rfl (A0 rfl) rfl M3 D3 qz5 D5) ?_;refine A1 rfl (A9 rfl Tryz.call187 rfl (AH7 gi hgi.good) L2) ?_;refine R2 ?_;refine A2 ?_ ?_
 ·intro h23;refine R5 ?_;exact I3 [0, 0, 0, 0, 0, 0, 0] 0 (nwZ w T L) [] ((gi, false)) (BU0) rfl (show List.Perm (nwZ w T L) ((nwZ w T L) ++ []) from B6) BU1 K5
 intro h23;have hrd : AO5 gi = true := Aw5;have hl := AJ3 hrd;have hgs := AM0 hgi.good hl;have htl := hgs.tlen;obtain ⟨c, hc, hcg, hl3, hg2, hnow, hsl, hsh⟩ := BQ9 hw h0 hx hl;refine R6 ?_;refine A1 rfl (n3 [0, 0, 0, 0, 0, 0, 0] 0 (nwZ w T L) ([]) rfl Tryz.call166 rfl rfl (B6) (AV6 b w X T L lead gi hx h0 hgi.good hl) E4) ?_;refine R1 ?_;refine A1 rfl (A9 rfl Tryz.call127 rfl (AK5 (W0 gi) t qz8) E4) ?_;refine R4 ?_;intro b11;refine R7 ?_;refine A2 ?_ ?_
 ·intro h32;refine R4 ?_;refine J7 [1, 1, 1, 1, 1, 1, 1] 1 7 (nwZ w T L) ([]) (fun zz => nwZ w T L) rfl rfl rfl rfl Tryz.call170 rfl rfl (show List.Perm (nwZ w T L) ((nwZ w T L) ++ ([])) from B6) (Ad9 b w X T L lead gi hx h0 hgi) E4 (fun a => L9) ?_;intro x35 ok35;refine R6 ?_;exact I3 [0, 0, 0, 0, 0, 0, 0] 1 (nwZ w T L) [] ((x35, true)) (BU0) rfl (show List.Perm (nwZ w T L) ((nwZ w T L) ++ []) from B6) BU1 K5
 intro h32;refine R6 ?_;intro b13;refine R7 ?_;refine A2 ?_ ?_
 ·intro h38;have hput := Ae0 b w X T L lead ⟨2, t, Ad0 ((AF3 c w.Now).High + 1) times, 0, [], [], true⟩ gi hx h0 hgi (show (0 : Nat) ≤ 1000 from by decide) (fun w9 hw9 => by cases hw9);refine R9 ?_;refine A1 rfl (n3 [2, 2, 2, 2, 2, 2, 2] 2 (nwZ w T L) ([]) rfl Tryz.call232 rfl rfl (B6) (Aw0 b w X T L lead gi c hx qz8 qz8 hc hcg hnow) E4) ?_;refine A1 rfl (A9 rfl Tryz.call231 rfl (By3 times (AF3 c w.Now) ⟨hsh, hsl⟩) E4) ?_;refine R8 ?_;refine J7 [2, 2, 2, 2, 2, 2, 2] 2 7 (nwZ w T L) ([]) (fun zz => nwZ w T L) rfl rfl rfl rfl Tryz.call164 rfl rfl (show List.Perm (nwZ w T L) ((nwZ w T L) ++ ([])) from B6) (hput) (A3 (A0 rfl) (A3 (A0 rfl) (A3 (AQ5 (A0 rfl) Al1) B2))) (fun a => L9) ?_;intro x49 ok49;refine R3 ?_;exact I3 [0, 0, 0, 0, 0, 0, 0] 2 (nwZ w T L) [] ((x49.1, x49.2)) (BU0) rfl (show List.Perm (nwZ w T L) ((nwZ w T L) ++ []) from B6) BU1 K5
 intro h38;have hput := Ae0 b w X T L lead ⟨2, t, 0, 0, [], [], false⟩ gi hx h0 hgi (show (0 : Nat) ≤ 1000 from by decide) (fun w9 hw9 => by cases hw9);refine R6 ?_;refine J7 [2, 2, 2, 2, 2, 2, 2] 2 7 (nwZ w T L) ([]) (fun zz => nwZ w T L) rfl rfl rfl rfl Tryz.call164 rfl rfl (show List.Perm (nwZ w T L) ((nwZ w T L) ++ ([])) from B6) (hput) (A3 (A0 rfl) (A3 (A0 rfl) (A3 (AQ5 (A0 rfl) Al1) B2))) (fun a => L9) ?_;intro x49 ok49;refine R3 ?_;exact I3 [0, 0, 0, 0, 0, 0, 0] 2 (nwZ w T L) [] ((x49.1, x49.2)) (BU0) rfl (show List.Perm (nwZ w T L) ((nwZ w T L) ++ []) from B6) BU1 K5
end Go.PQ
namespace Go.PQ
open Go.Proofs
open Go Go.AV Go.M
attribute [local irreducible] OpW OpA OpS AWP J3 K8 K0 OpE J6 H5 J9 Le Ev F8 L6 Z8 Int.tmod Int.tdiv IntKind.wrap Q7
theorem Ae1 {α : Type} {a b c : List α} (e : a = b) (h : b.Perm c) : a.Perm c := e ▸ h
theorem read_own (b : Nat) (w : E0) (X : WX) (T : List (Value × Value)) (L : List Value) (t : Int) (k : Str) (hw : WI w) (hT : T.length = w.Txns.length) (ht : 1 ≤ t ∧ (t - 1).toNat < w.Txns.length) (hk : k.length ≤ 12) : M7 198 [AV.ptr b 0, AV.int t, AV.str k] (WB b w X T L) (fun v : (E0 × Bool) × List (Value × Value) => WF w v.1.1 ∧ v.2.length = T.length) (fun v => WB b v.1.1 X v.2 L) (fun v => AV.bool v.1.2) := by
 have hng := hw.n;have htn := hw.txns.1;obtain ⟨p, hp⟩ : ∃ p : Nat, u6 w.Cuts k = p := ⟨_, rfl⟩;obtain ⟨gi, hx, hgl⟩ := Br8 hw k;rw [hp] at hx hgl;have hgi := hw.groups gi (C3 hx);obtain ⟨tx, htx⟩ := B3 ht.2;obtain ⟨y, hy⟩ := B3 (show (t - 1).toNat < T.length by omega);have htk := hw.txns.2 tx (C3 htx);obtain ⟨n, hn⟩ := B3 (show ((p : Nat) : Int).toNat < tx.Terms.length by rw [htk.terms]; omega);have hlate := CF7 b w X T L (p : Int) t tx y n gi htx hy hT qz8 qz8 hn hx;have hpart : F6 156 [strs w.Cuts, AV.str k] (AV.int ((p : Nat) : Int)) := by rw [← hp]; exact Ac4 w.Cuts k
 refine C5 Tryz.func198 rfl Tryz.ntmps198 rfl ?_;refine R12 ?_;refine A1 rfl (A9 rfl Tryz.call156 rfl (hpart) E4) ?_;refine R11 ?_;refine A1 rfl (H6 2 rfl I0 D3 (A0 rfl) rfl (A0 rfl) qz8 Al6) ?_;refine A1 rfl (n2 2 rfl (A0 rfl) rfl M3 D3 qz5 D5) ?_;refine A1 rfl (A9 rfl Tryz.call187 rfl (AH7 gi hgi.good) L2) ?_;refine R2 ?_;refine A2 ?_ ?_
 ·intro h26;refine R5 ?_;exact I3 [0, 0, 0, 0, 0, 0, 0] 0 (nwZ w T L) [] (((w, false), T)) (Bi4) rfl (show List.Perm (nwZ w T L) ((nwZ w T L) ++ []) from B6) Bi0 K5
 intro h26;have hrd : AO5 gi = true := (by simpa using h26);have hl := AJ3 hrd;refine R7 ?_;refine A1 rfl (n3 [0, 0, 0, 0, 0, 0, 0] 0 (nwZ w T L) ([]) rfl Tryz.call218 rfl rfl (B6) (hlate) AD6) ?_;refine R1 ?_;refine A2 ?_ ?_
 ·intro h30;refine R4 ?_;refine J7 [0, 0, 0, 0, 0, 0, 0] 0 7 (nwZ w T L) ([]) (fun zz => nwZ zz T L) rfl rfl rfl rfl Tryz.call199 rfl rfl (show List.Perm (nwZ w T L) ((nwZ w T L) ++ ([])) from B6) (Az2 b w X T L t hw hT qz8) E4 (fun a => L9) ?_;intro x33 ok33;refine R6 ?_;exact I3 [0, 0, 0, 0, 0, 0, 0] 0 (nwZ x33 T L) [] (((x33, true), T)) (Bi4) rfl (show List.Perm (nwZ x33 T L) ((nwZ x33 T L) ++ []) from B6) Bi0 K5
 intro h30;refine R8 ?_;refine J7 [0, 0, 0, 0, 0, 0, 0] 0 7 (nwZ w T L) ([]) (fun zz => nwZ zz.1 T L) rfl rfl rfl rfl Tryz.call219 rfl rfl (show List.Perm (nwZ w T L) ((nwZ w T L) ++ ([])) from B6) (CW5 b w X T L (p : Int) t k false gi hw hT ht qz8 hx hl hk) (A3 (A0 rfl) (A3 (A0 rfl) CN6)) (fun a => L9) ?_;intro x38 ok38;refine R2 ?_;refine A2 ?_ ?_
 ·intro h39;refine R5 ?_;exact I3 [0, 0, 0, 0, 0, 0, 0] 0 (nwZ x38.1 T L) [] (((x38.1, false), T)) (Bi4) rfl (show List.Perm (nwZ x38.1 T L) ((nwZ x38.1 T L) ++ []) from B6) Bi0 K5
 intro h39;have hx : x38.1.Groups[((p : Nat) : Int).toNat]? = some gi := (by rw [ok38.gr]; exact hx);have hT : T.length = x38.1.Txns.length := (hT.trans ok38.ws.txns.symm);obtain ⟨tx, htx⟩ := B3 (show (t - 1).toNat < x38.1.Txns.length by omega);have htk := ok38.wi.txns.2 tx (C3 htx);have hgs := Ah5 hgi.good hl;have hcs := BW2 hgs.cells;have hcl := Br7 hgs.cells k 100000;refine R5 ?_;refine A1 rfl (n3 [0, 0, 0, 0, 0, 0, 0] 0 (nwZ x38.1 T L) ([]) rfl Tryz.call189 rfl rfl (B6) (Al0 b x38.1 X T L (p : Int) gi hx qz8 hgi.good hl) E4) ?_;refine A1 rfl (Bm7 rfl AD3 rfl Tryz.isAgg169 (A0 rfl) rfl) ?_;refine R1 ?_;refine A1 rfl (A9 rfl Tryz.call190 rfl (Bh5 (Y9 gi).Cells k 100000 qz8) (A3 (A0 rfl) (A3 (A0 rfl) (A3 I7 B2)))) ?_;refine R12 ?_;refine A2 ?_ ?_
 ·intro h50;obtain ⟨G, hG⟩ : ∃ G : H4, G = ⟨k, [], (cellAt (Y9 gi).Cells k 100000).2⟩ := ⟨_, rfl⟩;have hGs : G.size ≤ 64 := (by rw [hG]; unfold H4.size; simp only [P6]; omega);refine R1 ?_;refine A1 rfl (D8 rfl (N9 (l := []) rfl)) ?_;refine R3 ?_;refine K2 AT4 ?_;refine AWP.le (Q8 7 (t := ([Go.AV.Own.arr y.1 80 3 (tx.Got.map H4.cs), Go.AV.Own.arr y.2 3 1 (tx.Terms.map fun n => [AV.int n])]) ++ (nin B1.ow (x38.1.Txns.eraseIdx (t - 1).toNat) (T.eraseIdx (t - 1).toNat) ++ nin B5.ow x38.1.Looks L)) (AR2 htx hy)) ?_;refine R8 ?_;refine A1 rfl (H6 5 rfl M5 S4 (A0 rfl) rfl (A0 rfl) qz8 Al6) ?_;refine A1 rfl (L0 5 rfl I8 rfl Q6 (A0 rfl) rfl rfl qz2) ?_;refine A1 rfl (M6 5 rfl (A0 rfl) rfl w7 qz2 rfl) ?_;refine R3 ?_;refine A2 ?_ ?_
  ·intro h62;have k62 := C6 h62;refine AWP.le (B9 [0, 0, 0, 0, 0, 0, 0, 0, 0] rfl) ?_;refine AWP.le (Q8 7 (t := nwZ x38.1 T L) ((AR2 htx hy).symm)) ?_;refine R5 ?_;exact I3 [0, 0, 0, 0, 0, 0, 0] 0 (nwZ x38.1 T L) [] (((x38.1, false), T)) (Bi4) rfl (show List.Perm (nwZ x38.1 T L) ((nwZ x38.1 T L) ++ []) from B6) Bi0 K5
  intro h62;have k62 := C2 h62;refine R2 ?_;refine K2 AT4 ?_;refine AWP.le (B9 [0, 4, 5] rfl) ?_;refine P3 _ [(0, false), (1, false), (2, false), (3, false), (4, false), (5, false), (6, false), (7, false), (8, false), (9, false), (10, false), (11, false), (12, false), (13, false), (14, false), (15, false), (16, false), (17, false), (18, false), (19, false), (20, false), (21, false), (22, true)] E3 E3 rfl (S8 2) ?_;refine R14 ?_;refine P1 rfl rfl rfl (fun ext => H6 1 rfl M5 S4 (A0 rfl) rfl (A0 rfl) qz8 Al6) ?_;refine P1 rfl rfl rfl (fun ext => L0 1 rfl I8 rfl Q6 (A0 rfl) rfl rfl qz2) ?_;refine P1 rfl rfl rfl (fun ext => M6 1 rfl (A0 rfl) rfl w7 qz2 rfl) ?_;refine R5 ?_;refine U2 rfl rfl rfl (L8 (by' := 40) 2 rfl M9 Tryz.type80 rfl rfl rfl rfl rfl rfl (A0 rfl) (A0 rfl) rfl qz3) (fun a _ => qz4) ?_;intro v85_1 _;refine R1 ?_;refine A1 rfl (H6 1 rfl M5 S4 (A0 rfl) rfl (A0 rfl) qz8 Al6) ?_;refine A1 rfl (L0 1 rfl I8 rfl Q6 (A0 rfl) rfl rfl qz2) ?_;refine V0 2 rfl fun one_v85_1 => ?_;refine X3 1 rfl rfl rfl (A0 rfl) (A0 rfl) (O8 one_v85_1) rfl Q6 qz2 rfl ?_;refine R2 ?_;refine K2 AT4 ?_;refine AWP.le (B9 [0, 0, 1, 1, 1, 1, 1, 0, 0] rfl) ?_;refine AWP.le (Q8 7 (t := nin B1.ow (x38.1.Txns.set (t - 1).toNat (AR9 tx G)) (T.set (t - 1).toNat (v85_1, y.2)) ++ nin B5.ow x38.1.Looks L) ((Ae1 (b := [Go.AV.Own.arr v85_1 80 3 ((tx.Got ++ [G]).map H4.cs), Go.AV.Own.arr y.2 3 1 (tx.Terms.map fun n => [AV.int n])] ++ (nin B1.ow (x38.1.Txns.eraseIdx (t - 1).toNat) (T.eraseIdx (t - 1).toNat) ++ nin B5.ow x38.1.Looks L)) (by subst hG; rw [V1]; rfl) (Br9 (w := x38.1) (L := L) (p' := AR9 tx G) (y' := (v85_1, y.2)) htx hy)))) ?_;refine R4 ?_;exact I3 [0, 1, 1, 1, 1, 0, 0] 0 (nin B1.ow (x38.1.Txns.set (t - 1).toNat (AR9 tx G)) (T.set (t - 1).toNat (v85_1, y.2)) ++ nin B5.ow x38.1.Looks L) [] (((AH9 x38.1 (t - 1).toNat (AR9 tx G), true), T.set (t - 1).toNat (v85_1, y.2))) (Bi4) rfl (show List.Perm (nin B1.ow (x38.1.Txns.set (t - 1).toNat (AR9 tx G)) (T.set (t - 1).toNat (v85_1, y.2)) ++ nin B5.ow x38.1.Looks L) ((nin B1.ow (x38.1.Txns.set (t - 1).toNat (AR9 tx G)) (T.set (t - 1).toNat (v85_1, y.2)) ++ nin B5.ow x38.1.Looks L) ++ []) from B6) Bi0 K5
 intro h50;obtain ⟨G, hG⟩ : ∃ G : H4, G = ⟨k, (cellAt (Y9 gi).Cells k 100000).1, (cellAt (Y9 gi).Cells k 100000).2⟩ := ⟨_, rfl⟩;have hGs : G.size ≤ 64 := (by rw [hG]; unfold H4.size; dsimp only; omega);refine R3 ?_;refine K2 AT4 ?_;refine AWP.le (Q8 7 (t := ([Go.AV.Own.arr y.1 80 3 (tx.Got.map H4.cs), Go.AV.Own.arr y.2 3 1 (tx.Terms.map fun n => [AV.int n])]) ++ (nin B1.ow (x38.1.Txns.eraseIdx (t - 1).toNat) (T.eraseIdx (t - 1).toNat) ++ nin B5.ow x38.1.Looks L)) (AR2 htx hy)) ?_;refine R8 ?_;refine A1 rfl (H6 5 rfl M5 S4 (A0 rfl) rfl (A0 rfl) qz8 Al6) ?_;refine A1 rfl (L0 5 rfl I8 rfl Q6 (A0 rfl) rfl rfl qz2) ?_;refine A1 rfl (M6 5 rfl (A0 rfl) rfl w7 qz2 rfl) ?_;refine R3 ?_;refine A2 ?_ ?_
 ·intro h62;have k62 := C6 h62;refine AWP.le (B9 [0, 0, 0, 0, 0, 0, 0, 0, 0] rfl) ?_;refine AWP.le (Q8 7 (t := nwZ x38.1 T L) ((AR2 htx hy).symm)) ?_;refine R5 ?_;exact I3 [0, 0, 0, 0, 0, 0, 0] 0 (nwZ x38.1 T L) [] (((x38.1, false), T)) (Bi4) rfl (show List.Perm (nwZ x38.1 T L) ((nwZ x38.1 T L) ++ []) from B6) Bi0 K5
 intro h62;have k62 := C2 h62;refine R2 ?_;refine K2 AT4 ?_;refine AWP.le (B9 [0, 4, 5] rfl) ?_;refine P3 _ [(0, false), (1, false), (2, false), (3, false), (4, false), (5, false), (6, false), (7, false), (8, false), (9, false), (10, false), (11, false), (12, false), (13, false), (14, false), (15, false), (16, false), (17, false), (18, false), (19, false), (20, false), (21, false), (22, true)] E3 E3 rfl (S8 2) ?_;refine R14 ?_;refine P1 rfl rfl rfl (fun ext => H6 1 rfl M5 S4 (A0 rfl) rfl (A0 rfl) qz8 Al6) ?_;refine P1 rfl rfl rfl (fun ext => L0 1 rfl I8 rfl Q6 (A0 rfl) rfl rfl qz2) ?_;refine P1 rfl rfl rfl (fun ext => M6 1 rfl (A0 rfl) rfl w7 qz2 rfl) ?_;refine R5 ?_;refine U2 rfl rfl rfl (L8 (by' := 40) 2 rfl M9 Tryz.type80 rfl rfl rfl rfl rfl rfl (A0 rfl) (A0 rfl) rfl qz3) (fun a _ => qz4) ?_;intro v85_2 _;refine R1 ?_;refine A1 rfl (H6 1 rfl M5 S4 (A0 rfl) rfl (A0 rfl) qz8 Al6) ?_;refine A1 rfl (L0 1 rfl I8 rfl Q6 (A0 rfl) rfl rfl qz2) ?_;refine V0 2 rfl fun one_v85_2 => ?_;refine X3 1 rfl rfl rfl (A0 rfl) (A0 rfl) (O8 one_v85_2) rfl Q6 qz2 rfl ?_;refine R2 ?_;refine K2 AT4 ?_;refine AWP.le (B9 [0, 0, 1, 1, 1, 1, 1, 0, 0] rfl) ?_;refine AWP.le (Q8 7 (t := nin B1.ow (x38.1.Txns.set (t - 1).toNat (AR9 tx G)) (T.set (t - 1).toNat (v85_2, y.2)) ++ nin B5.ow x38.1.Looks L) ((Ae1 (b := [Go.AV.Own.arr v85_2 80 3 ((tx.Got ++ [G]).map H4.cs), Go.AV.Own.arr y.2 3 1 (tx.Terms.map fun n => [AV.int n])] ++ (nin B1.ow (x38.1.Txns.eraseIdx (t - 1).toNat) (T.eraseIdx (t - 1).toNat) ++ nin B5.ow x38.1.Looks L)) (by subst hG; rw [V1]; rfl) (Br9 (w := x38.1) (L := L) (p' := AR9 tx G) (y' := (v85_2, y.2)) htx hy)))) ?_;refine R4 ?_;exact I3 [0, 1, 1, 1, 1, 0, 0] 0 (nin B1.ow (x38.1.Txns.set (t - 1).toNat (AR9 tx G)) (T.set (t - 1).toNat (v85_2, y.2)) ++ nin B5.ow x38.1.Looks L) [] (((AH9 x38.1 (t - 1).toNat (AR9 tx G), true), T.set (t - 1).toNat (v85_2, y.2))) (Bi4) rfl (show List.Perm (nin B1.ow (x38.1.Txns.set (t - 1).toNat (AR9 tx G)) (T.set (t - 1).toNat (v85_2, y.2)) ++ nin B5.ow x38.1.Looks L) ((nin B1.ow (x38.1.Txns.set (t - 1).toNat (AR9 tx G)) (T.set (t - 1).toNat (v85_2, y.2)) ++ nin B5.ow x38.1.Looks L) ++ []) from B6) Bi0 K5
end Go.PQ