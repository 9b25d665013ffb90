/- Texts of the claim, part 7. -/
import Derived.Test.YtogeipbkjamdkaaGreatDoorZOrders6
set_option linter.defProp false
set_option linter.unusedVariables false
set_option linter.unusedSimpArgs false
set_option maxRecDepth 100000
set_option maxHeartbeats 4000000
namespace Go.M
open Go.AV
def Ad1 (t : B1) : B1 := { t with Put := true }
theorem Ci2 {w : E0} (hw : WI w) {i : Nat} {t : B1} (ht : w.Txns[i]? = some t) (g : Nat) (n : Int) : WI (AH9 w i (w8 (Ad1 t) g n)) ∧ WS w (AH9 w i (w8 (Ad1 t) g n)) := by
  have h := hw.txns.2 t (C3 ht);exact Au4 hw (i := i) (t := w8 (Ad1 t) g n) ⟨by show (t.Terms.set g n).length = _; rw [V4]; exact h.terms, h.ops, h.got, h.span⟩
theorem AS5 {u v w : E0} (h : WF u v) (k : WI w ∧ WS v w) : WI w ∧ WS u w := ⟨k.1, h.ws.trans k.2⟩
theorem Ae2 {α : Type} {f : α → Nat} : ∀ {l : List α}, l.length ≤ D2 f l
  | [] => D6 _
  | x :: l => by rw [U5, H1]; have := Ae2 (f := f) (l := l); omega
theorem BT5 {P : Str → Prop} {got : List H4} : ∀ {l : List TOp} {buf : List A4}, (∀ o ∈ l, P o.Key) → (∀ w ∈ buf, P w.Key) → ∀ w ∈ (AI9 got buf l).2.2, P w.Key
  | [], buf, _, hb => hb
  | o :: l, buf, ho, hb => by
    unfold AI9;split
    · intro w hw; cases hw
    · split
      · intro w hw; cases hw
      · refine BT5 (fun x hx => ho x (S7 _ hx)) fun w hw => ?_
        have hm : w.Key ∈ U0 (Z3 o (E7 buf got o.Key).1 (E7 buf got o.Key).2.1 buf) := n8.2 ⟨w, hw, rfl⟩;rcases Cl9 hm with e | e
        · rw [e]; exact ho o W6
        · obtain ⟨z, hz, e⟩ := n8.1 e
          rw [← e]; exact hb z hz
theorem BR0 {l : List TOp} {got : List H4} (h : ∀ o ∈ l, o.Key ∈ AA7) : ∀ w ∈ (Q4 l got).2.2, w.Key ∈ AA7 := BT5 h fun w hw => by cases hw
theorem CG6 : ∀ {got : List H4} {a : List Str}, D2 (fun s : Str => s.length) (got.foldl (fun a g => AA6 a g.Key) a) ≤ D2 (fun s : Str => s.length) a + D2 H4.size got
  | [], a => by simp [D2]
  | g :: got, a => by
    rw [List.foldl_cons, U5];have h1 := CG6 (got := got) (a := AA6 a g.Key);have h2 := CE6 g.Key a;have h3 : g.Key.length ≤ g.size := by unfold H4.size; omega
    omega
theorem Ba4.sizes {n : Nat} {c : Int} {t : B1} (h : Ba4 n c t) : D2 (fun s : Str => s.length) (l5 t.Got) + D2 A4.size (Q4 t.Ops t.Got).2.2 ≤ 1000 := by
  have h1 := CG6 (got := t.Got) (a := []);have h2 := y6 (f := H4.size) (c := 64) (l := t.Got) h.got.2;have h3 : t.Got.length * (64 + 1) ≤ 8 * 65 := AE3 _ h.got.1;have hr := ran (got := t.Got) (n := 36) D5 (Ad7 h.ops.1);have h4 := y6 (f := A4.size) (c := 36) (l := (Q4 t.Ops t.Got).2.2) hr.size;have h5 : t.Ops.length ≤ 8 := by have h9 := h.ops.1; unfold AF2 at h9; rw [F0, I4] at h9; have := h9.1; omega
  have h6 : (Q4 t.Ops t.Got).2.2.length * (36 + 1) ≤ 8 * 37 := AE3 _ (by have := hr.len; omega);have h7 : D2 (fun s : Str => s.length) (l5 t.Got) ≤ D2 H4.size t.Got := by unfold l5; have h8 : D2 (fun s : Str => s.length) ([] : List Str) = 0 := rfl; omega
  omega
theorem Bl2 {w : E0} (hw : WI w) {p : Int} (h : 0 ≤ p ∧ p ≤ w.Cuts.length) : ∃ gi, w.Groups[p.toNat]? = some gi := B3 (by have := hw.cuts.1; omega)
def Bu2 (t : B1) (c : Int) : B1 := { t with End := c }
theorem wf_end {w : E0} (hw : WI w) {i : Nat} {t : B1} (ht : w.Txns[i]? = some t) (hq : 0 ≤ t.Begin ∧ t.Begin < w.Count) : WF w (AH9 w i (Bu2 t w.Count)) := by
  have h := hw.txns.2 t (C3 ht);have h2 := Au4 hw (i := i) (t := Bu2 t w.Count) ⟨h.terms, h.ops, h.got, h.span.1, .inr ⟨hq.1, hq.2, Int.le_refl _⟩⟩;exact ⟨h2.1, h2.2, rfl, rfl⟩
def r4 (h : List B4) : Prop := Be0 h ∧ ∀ d ∈ h, d.size ≤ 5000
theorem Cp5 : r4 [] := ⟨fun d hd => (by cases hd), fun d hd => (by cases hd)⟩
theorem r4.snoc {h : List B4} {d : B4} (H : r4 h) (hk : ∀ w ∈ d.Writes, w.Key ∈ AA7) (hs : d.size ≤ 5000) : r4 (h ++ [d]) := ⟨fun x hx => by
  rcases Z7.1 hx with hx | hx
  · exact H.1 x hx
  · rw [V8.1 hx]; exact hk, fun x hx => by
  rcases Z7.1 hx with hx | hx
  · exact H.2 x hx
  · rw [V8.1 hx]; exact hs⟩
theorem CK0 {n : Nat} {c : Int} {t : B1} (h : Ba4 n c t) {a b e tm : Int} : (B4.mk a b e true false tm t.Got (Q4 t.Ops t.Got).2.2).size ≤ 5000 := by
  have h2 := y6 (f := H4.size) (c := 64) (l := t.Got) h.got.2;have h3 : t.Got.length * (64 + 1) ≤ 8 * 65 := AE3 _ h.got.1;have hr := ran (got := t.Got) (n := 36) D5 (Ad7 h.ops.1);have h4 := y6 (f := A4.size) (c := 36) (l := (Q4 t.Ops t.Got).2.2) hr.size;have h5 : t.Ops.length ≤ 8 := by have h9 := h.ops.1; unfold AF2 at h9; rw [F0, I4] at h9; have := h9.1; omega
  have h6 : (Q4 t.Ops t.Got).2.2.length * (36 + 1) ≤ 8 * 37 := AE3 _ (by have := hr.len; omega);show D2 H4.size t.Got + D2 A4.size (Q4 t.Ops t.Got).2.2 ≤ 5000
  omega
theorem By5 {n : Nat} {c : Int} {t : B5} (h : LkOk n c t) {a b e tm : Int} : (B4.mk a b e true true tm t.Got []).size ≤ 5000 := by
  have h2 := y6 (f := H4.size) (c := 64) (l := t.Got) h.got.2;have h3 : t.Got.length * (64 + 1) ≤ 8 * 65 := AE3 _ (by have := h.got.1; have := h.keys.1; omega);show D2 H4.size t.Got + D2 A4.size [] ≤ 5000
  have : D2 A4.size [] = 0 := rfl;omega
theorem CG7 {own : List Go.AV.Own} {h : List B4} {row : List AV} {d : B4} (hr : AD0 own row d.cs) : As9 own (h.map B4.cs ++ [row]) ((h ++ [d]).map B4.cs) := by
  rw [V1];refine ⟨by simp, fun i e f h1 h2 => ?_⟩;by_cases hi : i < (h.map B4.cs).length
  · rw [Ah8 hi] at h1 h2
    rw [h1] at h2; injection h2 with h2; subst h2; exact AE9
  · rw [Ae4 qz8] at h1 h2
    cases hk : i - (h.map B4.cs).length with
    | zero => rw [hk] at h1 h2; injection h1 with h1; injection h2 with h2; subst h1; subst h2; exact hr
    | succ m => rw [hk] at h1; cases h1
def BC6 (h : List B4) (i : Nat) : Option Int := if (G7 h (Int.ofNat i)).Yes = true then some (Int.ofNat i) else none
theorem yes_eq (h : List B4) : I1 h = (List.range h.length).filterMap (BC6 h) := rfl
theorem AN4 {h : List B4} {i : Nat} {d : B4} (e : h[i]? = some d) : G7 h (i : Int) = d := by unfold G7; rw [AC6, e]; rfl
theorem CW8 {h : List B4} {i : Nat} {d : B4} (e : h[i]? = some d) : ((List.range (i + 1)).filterMap (BC6 h)).length = ((List.range i).filterMap (BC6 h)).length + (if d.Yes = true then 1 else 0) := by
  rw [List.range_succ, List.filterMap_append, G3];have : BC6 h i = if d.Yes = true then some (i : Int) else none := by unfold BC6; rw [show G7 h (Int.ofNat i) = d from AN4 e]; rfl
  simp only [AM3, List.filterMap_nil, this];by_cases hd : d.Yes = true
  · rw [D1 hd, D1 hd]; rfl
  · rw [D4 hd, D4 hd]; rfl
structure AI4 (h : List B4) (o : List Int) : Prop where
  nd : o.Nodup
  sub : ∀ n ∈ o, n ∈ I1 h
theorem AI4.len {h : List B4} {o : List Int} (f : AI4 h o) : o.length ≤ (I1 h).length := BQ8 f.nd f.sub
theorem AI4.snoc {h : List B4} {o : List Int} (f : AI4 h o) {i : Nat} {d : B4} (e : h[i]? = some d) (hy : d.Yes = true) (hn : (o.any fun y => (i : Int) == y) = false) : AI4 h (o ++ [(i : Int)]) where
  nd := by
    refine List.nodup_append.2 ⟨f.nd, by simp, fun a ha b hb => ?_⟩;have hb9 : b = (i : Int) := by simpa using hb
    rw [hb9];intro e9;have := List.any_eq_false.1 hn a ha;rw [e9] at this; simp at this
  sub := fun n hm => by
    rcases Z7.1 hm with hm | hm
    · exact f.sub n hm
    · rw [V8.1 hm]
      have hi := (F4.1 e).1;exact Bc8.2 ⟨⟨by omega, by omega⟩, by rw [AN4 e]; exact hy⟩
theorem Ci3 (a b : H4) : (a.Key == b.Key && (a.Val == b.Val && (a.There == b.There && true))) = decide (a = b) := by
  obtain ⟨k, v, t⟩ := a;obtain ⟨k', v', t'⟩ := b;rw [AP2];simp [H4.mk.injEq]
theorem Cx8 {α : Type} {p : α → Bool} {l : List α} {i : Nat} {x : α} (hx : l[i]? = some x) : (l.take (i + 1)).all p = ((l.take i).all p && p x) := by
  rw [V7, hx, List.all_append]; simp
theorem Bs1 {α β : Type} {f : α → Option β} {l : List α} {i : Nat} {x : α} (hx : l[i]? = some x) : (l.take (i + 1)).findSome? f = ((l.take i).findSome? f).or (f x) := by
  rw [V7, hx, List.findSome?_append]; simp
theorem some_at {α β : Type} {f : α → Option β} {l : List α} {i : Nat} {x : α} {y : β} (hx : l[i]? = some x) (h : (l.take i).findSome? f = none) (hy : f x = some y) : l.findSome? f = some y := by
  rw [← Aa7 i l, List.findSome?_append, h, List.drop_eq_getElem_cons (F4.1 hx).1, (F4.1 hx).2, List.findSome?_cons, hy]; rfl
def AY0 (h : List B4) (k s : Nat) (rows : List A4) (n : Int) : Option (List Int) := if (AA8 h s n && j3 rows (G7 h n)) = true then (X4 h k (AA9 s n) (a7 rows (G7 h n).Writes)).map (n :: ·) else none
theorem Ax9 (h : List B4) (k s : Nat) (rows : List A4) : X4 h (k + 1) s rows = (I1 h).findSome? (AY0 h k s rows) := rfl
theorem Cx9 (s : Nat) (rows : List A4) : Aj6 s (rows.take 0) = AH0 (s : Int) := by unfold Aj6; rw [List.take_zero]; exact S1 _
theorem rowT_len {w : A4} (h : w.size ≤ 100) : (Ar2 w).length ≤ 102 := by
  unfold Ar2;simp only [G3, H1, P6];have : w.size = w.Key.length + w.Val.length := rfl;omega
theorem CW9 : ∀ {rows : List A4}, (∀ w ∈ rows, w.size ≤ 100) → ((rows.map Ar2).flatten).length ≤ rows.length * 102
  | [], _ => D6 _
  | w :: rows, h => by
    have h1 := rowT_len (h w W6);have h2 := CW9 (rows := rows) fun x hx => h x (S7 _ hx);rw [T3, AT1, G3, H1, Nat.succ_mul]; omega
theorem Cy0 {s : Nat} (hs : s < 1024) : (AH0 (s : Int)).length ≤ 5 := Ct5 ⟨by omega, by omega⟩
theorem keyT_len {s : Nat} {rows : List A4} (hs : s < 1024) (hr : ∀ w ∈ rows, w.size ≤ 100) (hl : rows.length ≤ 8) : (Aj6 s rows).length ≤ 1000 := by
  have h1 := Cy0 hs;have h2 := CW9 hr;unfold Aj6;rw [G3]; omega
theorem Bs2 {h : List B4} {s : Nat} {rows : List A4} : X4 h 0 s rows = some [] := by unfold X4; rfl
theorem CX0 {h : List B4} {k s : Nat} {rows : List A4} {n : Int} (hc : (AA8 h s n && j3 rows (G7 h n)) = false) : AY0 h k s rows n = none := by unfold AY0; rw [D4 (by rw [hc]; decide)]
theorem Bl3 {h : List B4} {k s : Nat} {rows : List A4} {n : Int} (hc : (AA8 h s n && j3 rows (G7 h n)) = true) : AY0 h k s rows n = (X4 h k (AA9 s n) (a7 rows (G7 h n).Writes)).map (n :: ·) := by unfold AY0; rw [D1 hc]
theorem Cp6 {rows : List A4} (h : Af4 rows) {w : A4} (hw : w ∈ rows) : w.size ≤ 100 := by
  have h1 := (h.1.2 w hw).2;unfold AM8 Ae8 AJ5 at h1;simp only [F0, I4] at h1;have h2 := (AK0 (h.2 w hw)).2;unfold A4.size; omega
theorem left_pos {h : List B4} {s k : Nat} (hb : CM2 h s = false) (hk : AL6 h s = k) : ∃ k', k = k' + 1 := by
  cases k with
  | zero => rw [CD3.1 hk] at hb; cases hb
  | succ k => exact ⟨k, rfl⟩
theorem CG8 {h : List B4} : ∀ {k s : Nat} {rows : List A4} {l : List Int}, X4 h k s rows = some l → l.length = k
  | 0, s, rows, l, e => by unfold X4 at e; injection e with e; rw [← e]; rfl
  | k + 1, s, rows, l, e => by
    rw [Ax9] at e;obtain ⟨n, _, e⟩ := List.exists_of_findSome?_eq_some e;unfold AY0 at e;split at e
    · obtain ⟨r, e1, rfl⟩ := Option.map_eq_some_iff.1 e
      rw [H1, CG8 e1]
    · cases e
theorem left_le (h : List B4) (s : Nat) : AL6 h s ≤ (I1 h).length := List.length_filter_le _ _
theorem CG9 {n : Int} (h : n < 10) : 2 ^ n.toNat < 4611686018427387904 := Nat.lt_of_le_of_lt (Nat.pow_le_pow_right D5 (show n.toNat ≤ 10 by omega)) D5
theorem BR1 {l : List A4} (h : AG7 l = true) : l.length ≤ 1000 := by
  unfold AG7 at h;rw [F0, I4] at h;have := h.2; omega
def Bz9 (x : Option (List Int)) : List Int := x.getD []
def AH2 (h : List B4) : List Int × Bool × Bool := if X7 h = true then (Bz9 (X4 h (I1 h).length 0 []), (X4 h (I1 h).length 0 []).isSome, true) else ([], false, false)
def yT (h : List B4) (i : Nat) : List Int := (List.range i).filterMap (BC6 h)
theorem Bs3 (h : List B4) : yT h h.length = I1 h := (yes_eq h).symm
theorem BK6 {h : List B4} {i : Nat} {d : B4} (e : h[i]? = some d) (hy : d.Yes = true) : yT h (i + 1) = yT h i ++ [(i : Int)] := by
  unfold yT;rw [List.range_succ, List.filterMap_append];have : BC6 h i = some (i : Int) := by unfold BC6; rw [show G7 h (Int.ofNat i) = d from AN4 e, D1 hy]; rfl
  simp only [AM3, List.filterMap_nil, this]
theorem yT_no {h : List B4} {i : Nat} {d : B4} (e : h[i]? = some d) (hy : d.Yes = false) : yT h (i + 1) = yT h i := by
  unfold yT;rw [List.range_succ, List.filterMap_append];have : BC6 h i = none := by unfold BC6; rw [show G7 h (Int.ofNat i) = d from AN4 e, D4 (by rw [hy]; decide)]
  simp only [AM3, List.filterMap_nil, this, S1]
theorem CX1 {h : List B4} {i : Nat} {d : B4} (e : h[i]? = some d) (hy : d.Yes = true) : (i : Int) ∈ I1 h := by
  have hi := (F4.1 e).1;exact Bc8.2 ⟨⟨by omega, by omega⟩, by rw [AN4 e]; exact hy⟩
theorem Cp7 {d : B4} (hd : r3 d = true) : AF8 d d = false := by
  unfold r3 within at hd
  simp only [F0, AD7, e8, I4] at hd;unfold AF8
  cases he : d.End != -1 with
  | false => rfl
  | true =>
    have h1 : d.End ≠ -1 := by simpa using he
    have h2 : ¬ d.End < d.Begin := by rcases hd.1.1.1.1.2 with h3 | h3 <;> omega
    rw [AM4 h2]; rfl
theorem AI4.pos {h : List B4} {o : List Int} (f : AI4 h o) : ∀ n ∈ o, 0 ≤ n := fun n hn => (AR1 (f.sub n hn)).1
theorem AI4.bit {h : List B4} {o : List Int} (f : AI4 h o) (j : Nat) : (Z4 o).testBit ((j : Int)).toNat = o.any fun y => (j : Int) == y := by rw [AC6]; exact bits_bit f.pos
theorem AI4.lt {h : List B4} {o : List Int} (f : AI4 h o) (hl : h.length ≤ 10) : Z4 o < 1024 := Ch0 (o := o) (s := 0) D5 fun n hn => by have := AR1 (f.sub n hn); omega
theorem AI4.left {h : List B4} {o : List Int} (f : AI4 h o) : AL6 h (Z4 o) + o.length = (I1 h).length := bits_len f.nd f.sub
def BI2 (h : List B4) (s : Nat) (n : Int) (l : List Int) : Bool := l.any fun m => !s.testBit m.toNat && AF8 (G7 h m) (G7 h n)
theorem Bl4 (h : List B4) (s : Nat) (n : Int) : AA8 h s n = (!s.testBit n.toNat && !BI2 h s n (I1 h)) := rfl
theorem anyA_mem {h : List B4} {s : Nat} {n m : Int} {l : List Int} (hm : m ∈ l) (h1 : s.testBit m.toNat = false) (h2 : AF8 (G7 h m) (G7 h n) = true) : BI2 h s n l = true := by
  unfold BI2;rw [List.any_eq_true];exact ⟨m, hm, by rw [h1, h2]; rfl⟩
theorem anyA_app {h : List B4} {s : Nat} {n m : Int} {l : List Int} : BI2 h s n (l ++ [m]) = (BI2 h s n l || (!s.testBit m.toNat && AF8 (G7 h m) (G7 h n))) := by unfold BI2; rw [List.any_append]; simp
theorem Cp8 {h : List B4} {o : List Int} {i j : Nat} {x d : B4} (ha : BI2 h (Z4 o) (i : Int) (yT h j) = false) (hx : h[j]? = some x) (hdi : G7 h (i : Int) = d) (hdj : G7 h (j : Int) = x) (hbj : (Z4 o).testBit ((j : Int)).toNat = o.any fun y => (j : Int) == y) (hxd : r3 x = true)
    (hc : (((((j : Int) != (i : Int)) && x.Yes) && !(o.any fun y => (j : Int) == y)) && AF8 x d) = false) : BI2 h (Z4 o) (i : Int) (yT h (j + 1)) = false := by
  cases hy : x.Yes with
  | false => rw [yT_no hx hy]; exact ha
  | true =>
    rw [BK6 hx hy, anyA_app, ha, Bool.false_or, hbj, hdj, hdi];by_cases e : (j : Int) = (i : Int)
    · have hdx : d = x := by rw [← hdi, ← hdj, e]
      rw [hdx, Cp7 hxd, Bool.and_false]
    · rw [show ((j : Int) != (i : Int)) = true by simpa using e, hy] at hc
      simpa using hc
def resF (o : List Int) (x : Option (List Int)) : List Int × Bool := match x with | some l => (o ++ l, true) | none => ([], false)
theorem Bl5 {α β : Type} {f : α → Option β} {l : List α} {x : α} : (l ++ [x]).findSome? f = (l.findSome? f).or (f x) := by rw [List.findSome?_append]; simp
theorem yT_pre (h : List B4) (i : Nat) (hi : i ≤ h.length) : ∃ r, I1 h = yT h i ++ r := by
  rw [← Bs3];unfold yT;obtain ⟨k, hk⟩ : ∃ k, h.length = i + k := ⟨h.length - i, by omega⟩;rw [hk, List.range_add, List.filterMap_append];exact ⟨_, rfl⟩
theorem some_mid {α β : Type} {f : α → Option β} {a r : List α} {y : β} (h : a.findSome? f = some y) : (a ++ r).findSome? f = some y := by rw [List.findSome?_append, h]; rfl
theorem Cy1 {h : List B4} {k s : Nat} {rows : List A4} {i : Nat} {d : B4} (hd : h[i]? = some d) (hc : ((!(d.Yes && AA8 h s (i : Int))) || !j3 rows d) = true) (hp : (yT h i).findSome? (AY0 h k s rows) = none) : (yT h (i + 1)).findSome? (AY0 h k s rows) = none := by
  cases hy : d.Yes with
  | false => rw [yT_no hd hy]; exact hp
  | true =>
    rw [BK6 hd hy, Bl5, hp, CX0 (by rw [AN4 hd]; rw [hy] at hc; revert hc; cases AA8 h s (i : Int) <;> cases j3 rows d <;> simp)]; rfl
theorem stepF_on {h : List B4} {k s : Nat} {rows : List A4} {i : Nat} {d : B4} (hd : h[i]? = some d) (hc : ((!(d.Yes && AA8 h s (i : Int))) || !j3 rows d) = false) : d.Yes = true ∧ AA8 h s (i : Int) = true ∧ AY0 h k s rows (i : Int) = (X4 h k (AA9 s (i : Int)) (a7 rows d.Writes)).map ((i : Int) :: ·) := by
  have h1 : d.Yes = true ∧ AA8 h s (i : Int) = true ∧ j3 rows d = true := by revert hc; cases d.Yes <;> cases AA8 h s (i : Int) <;> cases j3 rows d <;> simp
  exact ⟨h1.1, h1.2.1, by rw [Bl3 (by rw [AN4 hd, h1.2.1, h1.2.2]; rfl), AN4 hd]⟩
theorem Cy2 {h : List B4} {k s : Nat} {rows : List A4} (hp : (yT h h.length).findSome? (AY0 h k s rows) = none) : X4 h (k + 1) s rows = none := by rw [Ax9, ← Bs3]; exact hp
theorem found_at {h : List B4} {k s : Nat} {rows : List A4} {i : Nat} {d : B4} {l : List Int} (hd : h[i]? = some d) (hy : d.Yes = true) (hp : (yT h i).findSome? (AY0 h k s rows) = none) (hs : AY0 h k s rows (i : Int) = some l) : X4 h (k + 1) s rows = some l := by
  obtain ⟨r, hr⟩ := yT_pre h (i + 1) (F4.1 hd).1;rw [Ax9, hr];exact some_mid (by rw [BK6 hd hy, Bl5, hp, hs]; rfl)
theorem Ci4 {h : List B4} : (resF [] (X4 h (I1 h).length 0 [])).1 = Bz9 (X4 h (I1 h).length 0 []) ∧ (resF [] (X4 h (I1 h).length 0 [])).2 = (X4 h (I1 h).length 0 []).isSome := by
  cases X4 h (I1 h).length 0 [] <;> exact ⟨rfl, rfl⟩
theorem l5_ok9 {l : List A4} (h : Af4 l) (hl : l.length ≤ 8) : BL0 l = true := by rw [l5_mk h.1.1 h.1.2, I4]; omega
theorem CH0 (h : List B4) : AI4 h [] := ⟨List.nodup_nil, fun n hn => (by cases hn)⟩
def AO9 (h : List B4) : Nat × Bool := if (X7 h && decide ((I1 h).length ≤ 7)) = true then (Y8 h (I1 h).length 0, true) else (0, false)
def cT (h : List B4) (k s i : Nat) : Nat := ((yT h i).map fun n => if AA8 h s n = true then Y8 h k (AA9 s n) else 0).sum
theorem cT_all (h : List B4) (k s : Nat) : cT h k s h.length = Y8 h (k + 1) s := by
  show _ = ((I1 h).map fun n => if AA8 h s n = true then Y8 h k (AA9 s n) else 0).sum
  unfold cT; rw [Bs3]
theorem cT_le {h : List B4} {k s i : Nat} (hi : i ≤ h.length) : cT h k s i ≤ Y8 h (k + 1) s := by
  show _ ≤ ((I1 h).map fun n => if AA8 h s n = true then Y8 h k (AA9 s n) else 0).sum
  obtain ⟨r, hr⟩ := yT_pre h i hi;unfold cT;rw [hr, V1, List.sum_append]; omega
theorem cT_yes {h : List B4} {k s i : Nat} {d : B4} (hd : h[i]? = some d) (hc : (d.Yes && AA8 h s (i : Int)) = true) : cT h k s (i + 1) = cT h k s i + Y8 h k (AA9 s (i : Int)) := by
  rw [F0] at hc;unfold cT;rw [BK6 hd hc.1, V1, List.sum_append];simp [hc.2]
theorem cT_no {h : List B4} {k s i : Nat} {d : B4} (hd : h[i]? = some d) (hc : (d.Yes && AA8 h s (i : Int)) = false) : cT h k s (i + 1) = cT h k s i := by
  unfold cT
  cases hy : d.Yes with
  | false => rw [yT_no hd hy]
  | true =>
    rw [hy, Bool.true_and] at hc;rw [BK6 hd hy, V1, List.sum_append];simp [hc]
theorem BZ3 {h : List B4} {k s : Nat} (h7 : (I1 h).length ≤ 7) (hk : k ≤ 7) : Y8 h k s ≤ 823543 := L4 (BE0 k s) (pow7 h7 hk)
theorem AO6.mono {h : List B4} {k c B B' : Nat} {x : Obj} (hx : AO6 h k c B x) (hB : B ≤ B') : AO6 h k c B' x := by
  obtain ⟨es, clock, e, a⟩ := hx;exact ⟨es, clock, e, ⟨a.wf, a.ent, a.sum, L4 a.le hB⟩⟩
theorem AO6.at {h : List B4} {k c c' B B' : Nat} {x : Obj} (hx : AO6 h k c B x) (hc : c = c') (hB : B ≤ B') : AO6 h k c' B' x := hc ▸ hx.mono hB
theorem cW_zero {h : List B4} {es : List MapEntry} : wS (cW h 0) es = wS eV es := by
  unfold wS;congr 1
  exact List.map_congr_left fun e _ => Nat.mul_one _
theorem Cy3 (h : List B4) : ∃ r, Instr.findNow (.int .i64) (Go.AV.W1 0) (#[] : Array MapEntry).toList 0 = some r ∧ (∀ j u, r = some (j, u) → Instr.sameBits 10000 ((((#[] : Array MapEntry)[j]?).map (·.key)).getD (Go.AV.W1 0)) (Go.AV.W1 0) = true) ∧ AO6 h (I1 h).length (Y8 h (I1 h).length 0) 1 (BL2 #[] 0 (Go.AV.W1 0) (Go.AV.W1 1) r) := by
  obtain ⟨r, v, h1, h2, h3, h4, h5⟩ := Ch3 (Ch2 h (I1 h).length) (t := 0) D5 (Ak7 h);have hv : v = 0 := by omega
  subst hv;refine ⟨r, h1, h4, ?_⟩;have := h5 1;rw [Nat.zero_add, Nat.zero_add, Nat.one_mul] at this;exact this
theorem Cp9 {s : H2} (g : GS s) (n : Int) : 0 ≤ (AM1 s.Held n).1.Lead ∧ (AM1 s.Held n).1.Lead ≤ 3 := by
  unfold AM1
  cases hf : AL5 s.Held n with
  | none => exact ⟨Int.le_refl 0, by decide⟩
  | some h =>
    have h1 := (g.good h (Ax0 hf).1).1;unfold U7 Ay5 AX8 at h1;rw [D1 rfl] at h1;simp only [F0] at h1;have h2 := h1.1.1.1.1.1.1.2;unfold within at h2
    rw [F0, I4, I4] at h2;exact h2
def Bu3 (t : B1) (c : Int) : B1 := { t with Begin := c }
theorem wf_beg {w : E0} (hw : WI w) {i : Nat} {t : B1} (ht : w.Txns[i]? = some t) (hb : t.Begin < 0) : WF w (AH9 w i (Bu3 t w.Count)) := by
  have h := hw.txns.2 t (C3 ht);have hs := h.span;have h2 := Au4 hw (i := i) (t := Bu3 t w.Count) ⟨h.terms, h.ops, h.got, Int.le_refl _, .inl (by show t.End = -1; omega)⟩;exact ⟨h2.1, h2.2, rfl, rfl⟩
theorem step_ask {n : Nat} {c : Int} {t : B1} (h : Ba4 n c t) (e : (Q4 t.Ops t.Got).1 = 1) : (Q4 t.Ops t.Got).2.1.length ≤ 12 := by
  have hr := ran (got := t.Got) (n := 36) D5 (Ad7 h.ops.1);obtain ⟨⟨o, ho, ek⟩, _⟩ := hr.ask e;have := (AK0 (h.ops.2 o ho)).2;rw [← ek]; omega
end Go.M
namespace Go.PQ
open Go.Proofs
open Go Go.AV Go.M
attribute [local irreducible] OpW OpA OpS AWP J3 K8 K0 OpE J6 H5 J9 Le Ev F8 L6 Z8 Int.tmod Int.tdiv IntKind.wrap Q7
theorem Cd9 (b : Nat) (w : E0) (X : WX) (T : List (Value × Value)) (L : List Value) (t p lead : Int) (reads : List Str) (writes : List A4) (gi : C8) (hw : WI w) (hT : T.length = w.Txns.length) (ht : 1 ≤ t ∧ (t - 1).toNat < w.Txns.length) (h0 : 0 ≤ p) (hx : w.Groups[p.toNat]? = some gi) (hz : D2 (fun s : Str => s.length) reads + D2 A4.size writes ≤ 1000) (hk : ∀ x ∈ writes, x.Key ∈ AA7) : M7 220 [AV.ptr b 0, AV.int t, AV.int p, AV.int lead, strs reads, AV.list 3 (writes.map A4.cs)] (WB b w X T L) (fun v : E0 × Bool => WI v.1 ∧ WS w v.1) (fun v => WB b v.1 X T L) (fun v => AV.bool v.2) := by
 have hng := hw.n;have htn := hw.txns.1;have hgi := hw.groups gi (C3 hx);have hgl := (F4.1 hx).1;obtain ⟨tx, htx⟩ := B3 ht.2;obtain ⟨y, hy⟩ := B3 (show (t - 1).toNat < T.length by omega);have htk := hw.txns.2 tx (C3 htx);obtain ⟨n, hn⟩ := B3 (show p.toNat < tx.Terms.length by rw [htk.terms]; omega);have hlate := CF7 b w X T L p t tx y n gi htx hy hT qz8 h0 hn hx;have hrl := Ae2 (f := fun s : Str => s.length) (l := reads);have hwl := Ae2 (f := A4.size) (l := writes);obtain ⟨rs, hrs⟩ : ∃ rs, reads.filter (inS w.Cuts p) = rs := ⟨_, rfl⟩;obtain ⟨ws, hws⟩ : ∃ ws, (writes.filter fun w9 => inS w.Cuts p w9.Key) = ws := ⟨_, rfl⟩;have hsh := Cp1 w.Cuts reads writes p qz8 qz8;have hsr := BB7 (f := fun s : Str => s.length) (p := inS w.Cuts p) (l := reads);have hsw := BB7 (f := A4.size) (p := fun w9 : A4 => inS w.Cuts p w9.Key) (l := writes);have hkw : ∀ x ∈ ws, x.Key ∈ AA7 := fun x hx9 => by rw [← hws] at hx9; exact hk x (List.mem_filter.1 hx9).1
 have hwsl : ws.length ≤ 1000 := by rw [← hws]; exact L4 (List.length_filter_le _ _) qz8
 rw [hrs, hws] at hsh;rw [hrs] at hsr;rw [hws] at hsw;refine C5 Tryz.func220 rfl Tryz.ntmps220 rfl ?_;refine R13 ?_;refine A1 rfl (H6 2 rfl I0 D3 (A0 rfl) rfl (A0 rfl) qz8 Bi2) ?_;refine A1 rfl (n2 2 rfl (A0 rfl) rfl M3 D3 qz27 D5) ?_;refine A1 rfl (A9 rfl Tryz.call187 rfl (AH7 gi hgi.good) L2) ?_;refine R2 ?_;refine A2 ?_ ?_
 ·intro h33;refine R5 ?_;exact I3 [0, 0, 0, 0, 0, 0, 0] 0 (nwZ w T L) [] ((w, false)) (qz9) rfl (show List.Perm (nwZ w T L) ((nwZ w T L) ++ []) from B6) BM0 K5
 intro h33;have hrd : AO5 gi = true := (by simpa using h33);have hl := AJ3 hrd;have hgs := AM0 hgi.good hl;have hfs := Aq6 (AY1.2 hgs);have hft := hgs.tlen;have hfh := hgs.hlen;refine R5 ?_;refine A1 rfl (n3 [0, 0, 0, 0, 0, 0, 0] 0 (nwZ w T L) ([]) rfl Tryz.call166 rfl rfl (B6) (AV6 b w X T L p gi hx h0 hgi.good hl) E4) ?_;refine R1 ?_;intro b13;refine R7 ?_;refine A1 rfl (A9 rfl Tryz.call127 rfl (AK5 (W0 gi) t qz8) E4) ?_;refine R4 ?_;intro b14;refine R10 ?_;refine W9 rfl (fun hc => n3 [2, 2, 2, 2, 2, 2, 2] 2 (nwZ w T L) ([]) rfl Tryz.call218 rfl rfl (B6) (hlate) (A3 (A8 rfl hc) (A3 (A8 rfl hc) (A3 (A8 rfl hc) B2)))) ?_;refine R2 ?_;refine A2 ?_ ?_
 ·intro h49;refine R4 ?_;refine J7 [2, 2, 2, 2, 2, 2, 2] 2 7 (nwZ w T L) ([]) (fun zz => nwZ zz T L) rfl rfl rfl rfl Tryz.call199 rfl rfl (show List.Perm (nwZ w T L) ((nwZ w T L) ++ ([])) from B6) (Az2 b w X T L t hw hT qz8) E4 (fun a => L9) ?_;intro x52 ok52;refine R6 ?_;exact I3 [0, 0, 0, 0, 0, 0, 0] 2 (nwZ x52 T L) [] ((x52, true)) (qz9) rfl (show List.Perm (nwZ x52 T L) ((nwZ x52 T L) ++ []) from B6) BM0 K5
 intro h49;refine R6 ?_;refine A1 rfl (A9 rfl Tryz.call207 rfl (Ac2 (W0 gi) t qz8) E4) ?_;refine R4 ?_;intro b16;refine R7 ?_;refine A2 ?_ ?_
 ·intro h59;refine R4 ?_;refine J7 [3, 3, 3, 3, 3, 3, 3] 3 7 (nwZ w T L) ([]) (fun zz => nwZ w T L) rfl rfl rfl rfl Tryz.call170 rfl rfl (show List.Perm (nwZ w T L) ((nwZ w T L) ++ ([])) from B6) (Ad9 b w X T L p gi hx h0 hgi) E4 (fun a => L9) ?_;intro x62 ok62;refine R6 ?_;exact I3 [0, 0, 0, 0, 0, 0, 0] 3 (nwZ w T L) [] ((Y5 w p.toNat x62, true)) (qz9) rfl (show List.Perm (nwZ w T L) ((nwZ w T L) ++ []) from B6) BM0 K5
 intro h59;refine R11 ?_;refine A1 rfl (A9 rfl Tryz.call236 rfl (hsh) BI4) ?_;refine R14 ?_;refine K2 qz112 ?_;refine AWP.le (B9 [3, 3, 3, 3, 3, 3, 3, 0, 0, 0] rfl) ?_;refine K3 [(0, _), (1, _), (2, _), (3, _), (13, _), (18, _), (19, _), (75, _), (76, _)] [] (fun (i : Nat) (v : E0) => i ≤ ws.length ∧ WF w v) (fun i v => [.box b 196 [AV.int v.Now, AV.int v.Count, AV.is X.cl, strs v.Cuts, AV.is X.gr, AV.is X.lo, AV.is X.pr, AV.is X.tx, AV.is X.lk], .arr X.cl 235 1 (v.Clocks.map u9.cs), .arr X.gr 168 3 (v.Groups.map C8.cs), .arr X.lo 200 1 (v.Locks.map fun l => [AV.list 3 (l.map J5.cs)]), .arr X.pr 3 1 (v.Promised.map fun n => [AV.int n]), .arr X.tx 132 10 (L7 B1.ocs v.Txns T), .arr X.lk 141 6 (L7 B5.ocs v.Looks L), .box b16 253 (AM1 (W0 gi).Held t).1.cs, .box b14 137 (AY6 (W0 gi).Told t).1.cs, .box b13 172 (W0 gi).cs] ++ (nwZ v T L)) (fun i v => [(77, AV.int i)]) (fun i v => ws.length - i) (0) (w) ?_ (I6 (by (rw [S1]; rfl)) A5) ?_
 ·exact ⟨D6 _, WF.refl hw⟩
 intro i v hinv;refine K2 (S1 _) ?_;refine R5 ?_;refine A2 ?_ ?_
 ·intro h78;have k78 := C6 h78;have hlt : i < ws.length := (by simpa using h78);obtain ⟨x, hxx⟩ := B3 hlt;have hkx := (AK0 (hkw x (C3 hxx))).2;have hTv : T.length = v.Txns.length := hT.trans hinv.2.ws.txns.symm;have hxv : v.Groups[p.toNat]? = some gi := (by rw [hinv.2.gr]; exact hx);have htv : (t - 1).toNat < v.Txns.length := qz8;refine R5 ?_;refine A1 rfl (C7 rfl C0 F2 (A0 rfl) (A0 rfl) hxx qz3) ?_;refine R2 ?_;intro b21;refine R10 ?_;refine J7 [1, 1, 1, 1, 1, 1, 1] 4 7 (nwZ v T L) ([]) (fun zz => nwZ zz.1 T L) rfl rfl rfl rfl Tryz.call219 rfl rfl (show List.Perm (nwZ v T L) ((nwZ v T L) ++ ([])) from B6) (CW5 b v X T L p t x.Key true gi hinv.2.wi hTv ⟨ht.1, htv⟩ h0 hxv hl qz8) (A3 (A0 rfl) (A3 (A0 rfl) CN6)) (fun a => L9) ?_;intro x86 ok86;refine R1 ?_;refine A2 ?_ ?_
  ·intro h86;refine R5 ?_;refine G8 i v (i + 1) (x86.1) ?_ ?_ (Le.trans (B9 [7, 0, 0, 0, 0, 0, 0, 0, 0, 0, 0] rfl) (E8 1 (Eq.trans B7 (S1 _).symm) A5))
   ·exact ⟨by omega, hinv.2.trans ok86⟩
   omega
  intro h86;have hT : T.length = x86.1.Txns.length := hTv.trans ok86.ws.txns.symm;obtain ⟨tx, htx⟩ := B3 (show (t - 1).toNat < x86.1.Txns.length by omega);refine R11 ?_;refine A1 rfl (H6 5 rfl M5 S4 (A0 rfl) rfl (A0 rfl) qz8 Bi2) ?_;refine A1 rfl (L0 5 rfl I8 rfl S0 (A0 rfl) rfl rfl qz2) ?_;refine A1 rfl (M6 5 rfl (A0 rfl) rfl AA3 qz2 rfl) ?_;refine R2 ?_;refine A2 ?_ ?_
  ·intro h97;refine R5 ?_;exact I3 [0, 0, 0, 0, 0, 0, 0] 4 (nwZ x86.1 T L) [] ((x86.1, false)) (qz9) rfl (show List.Perm (nwZ x86.1 T L) ((nwZ x86.1 T L) ++ []) from B6) BM0 K5
  intro h97;refine R5 ?_;refine J7 [0, 0, 0, 0, 0, 0, 0] 4 7 (nwZ x86.1 T L) ([]) (fun zz => nwZ zz T L) rfl rfl rfl rfl Tryz.call199 rfl rfl (show List.Perm (nwZ x86.1 T L) ((nwZ x86.1 T L) ++ ([])) from B6) (Az2 b x86.1 X T L t ok86.wi hT qz8) E4 (fun a => L9) ?_;intro x100 ok100;refine R6 ?_;exact I3 [0, 0, 0, 0, 0, 0, 0] 4 (nwZ x100 T L) [] ((x100, true)) (qz9) rfl (show List.Perm (nwZ x100 T L) ((nwZ x100 T L) ++ []) from B6) BM0 K5
 intro h78;have k78 := C2 h78;have hv := hinv.2;have hT : T.length = v.Txns.length := hT.trans hv.ws.txns.symm;have hx : v.Groups[p.toNat]? = some gi := (by rw [hv.gr]; exact hx);have hgl := (F4.1 hx).1;obtain ⟨tx, htx⟩ := B3 (show (t - 1).toNat < v.Txns.length by omega);have htk := hv.wi.txns.2 tx (C3 htx);obtain ⟨pr, hpx⟩ := B3 (show p.toNat < v.Promised.length by rw [hv.wi.promised.1]; exact hgl);obtain ⟨n, hn⟩ := B3 (show p.toNat < tx.Terms.length by rw [htk.terms]; exact hgl);have hnl := (F4.1 hn).1;have hpl := (F4.1 hpx).1;refine R7 ?_;refine A1 rfl (A9 rfl Tryz.call209 rfl (Bq2 (W0 gi) rs ws qz8 qz8) AD6) ?_;refine R2 ?_;refine A2 ?_ ?_
 ·intro h106;refine R4 ?_;refine J7 [0, 0, 0, 0, 0, 0, 0] 3 7 (nwZ v T L) ([]) (fun zz => nwZ zz T L) rfl rfl rfl rfl Tryz.call199 rfl rfl (show List.Perm (nwZ v T L) ((nwZ v T L) ++ ([])) from B6) (Az2 b v X T L t hv.wi hT qz8) E4 (fun a => L9) ?_;intro x109 ok109;refine R6 ?_;exact I3 [0, 0, 0, 0, 0, 0, 0] 3 (nwZ x109 T L) [] ((x109, true)) (qz9) rfl (show List.Perm (nwZ x109 T L) ((nwZ x109 T L) ++ []) from B6) BM0 K5
 intro h106;refine R10 ?_;refine C1 rfl rfl (H6 4 rfl C9 D0 (A0 rfl) rfl (A0 rfl) qz8 Bi2) ?_;refine C1 rfl rfl (AW1 4 rfl (A0 rfl) rfl P4 (BZ0 (g := AV.int) hpx)) ?_;refine C1 rfl rfl (A9 rfl Tryz.call237 rfl (Be8 (W0 gi) pr qz8) E4) ?_;refine R20 ?_;refine Ai6 rfl rfl (j5 rfl rfl rfl) ?_ ?_
 ·intro gh134;refine J7 [0, 0, 0, 0, 0, 0, 0] 3 7 (nwZ v T L) ([]) (fun zz => nwZ v T L) rfl rfl rfl rfl Tryz.call164 rfl rfl (show List.Perm (nwZ v T L) ((nwZ v T L) ++ ([])) from B6) (Ae0 b v X T L p ⟨1, t, (BS3 (W0 gi) pr).1, lead, rs, ws, false⟩ gi hx h0 hgi (show D2 (fun x : Str => x.length) rs + D2 A4.size ws ≤ 1000 by omega) hkw) (A3 (A8 rfl gh134) (A3 (A8 rfl gh134) (A3 (A8 rfl gh134) B2))) (fun a => L9) ?_;intro x134 ok134;refine R3 ?_;refine A2 ?_ ?_
  ·intro h136;refine R5 ?_;exact I3 [0, 0, 0, 0, 0, 0, 0] 3 (nwZ v T L) [] ((Y5 v p.toNat x134.1, false)) (qz9) rfl (show List.Perm (nwZ v T L) ((nwZ v T L) ++ []) from B6) BM0 K5
  intro h136;refine R2 ?_;refine K2 qz76 ?_;refine R8 ?_;refine A1 rfl (H6 5 rfl M5 S4 (A0 rfl) rfl (A0 rfl) qz8 Bi2) ?_;refine A1 rfl (L0 5 rfl I8 rfl S0 (A0 rfl) rfl rfl qz2) ?_;refine X3 5 rfl rfl rfl (A0 rfl) AV9 (AT6 _) rfl S0 qz2 rfl ?_;refine R2 ?_;refine K2 qz76 ?_;refine AWP.le (Q8 10 (t := ([Go.AV.Own.arr y.1 80 3 (tx.Got.map H4.cs), Go.AV.Own.arr y.2 3 1 (tx.Terms.map fun n => [AV.int n])]) ++ (nin B1.ow (v.Txns.eraseIdx (t - 1).toNat) (T.eraseIdx (t - 1).toNat) ++ nin B5.ow v.Looks L)) (AR2 htx hy)) ?_;refine O7 21 E3 E3 rfl ?_;refine R7 ?_;refine C1 rfl rfl (H6 5 rfl M5 S4 (A0 rfl) rfl (A0 rfl) qz8 Bi2) ?_;refine C1 rfl rfl (L0 5 rfl I8 rfl Tryz.sizeOf26 (A0 rfl) rfl rfl qz2) ?_;refine C1 rfl rfl (M6 5 rfl (A0 rfl) rfl Tryz.isAgg26 qz2 rfl) ?_;refine R7 ?_;refine C1 rfl rfl (H6 2 rfl I0 D3 (A0 rfl) rfl (A0 rfl) qz8 Bi2) ?_;refine C1 rfl rfl (L0 2 rfl U9 rfl D0 (A0 rfl) rfl rfl qz27) ?_;refine C1 rfl rfl (M6 2 rfl (A0 rfl) rfl P4 qz27 rfl) ?_;refine C1 rfl rfl (H6 11 rfl C9 D0 (A0 rfl) rfl (A0 rfl) qz8 Bi2) ?_;refine R1 ?_;refine m4 11 rfl rfl rfl (A0 rfl) (A0 rfl) (Z2 _ _) rfl D0 rfl qz3 ?_;refine R2 ?_;refine K2 qz76 ?_;refine AWP.le (B9 [0, 0, 0, 0, 0, 0, 0, 0, 0, 0, 0, 0] rfl) ?_;refine AWP.le (Q8 10 (t := nin B1.ow (v.Txns.set (t - 1).toNat (w8 (Ad1 tx) p.toNat x134.1.Term)) T ++ nin B5.ow v.Looks L) ((by have h9 := Br9 (w := v) (L := L) (p' := w8 (Ad1 tx) p.toNat x134.1.Term) (y' := y) htx hy; rw [BK4 hy] at h9; unfold B1.ow w8 Ad1 at h9 ⊢; dsimp only at h9; rw [AF6] at h9; exact h9))) ?_;refine R4 ?_;exact I3 [0, 0, 0, 0, 0, 0, 0] 3 (nin B1.ow (v.Txns.set (t - 1).toNat (w8 (Ad1 tx) p.toNat x134.1.Term)) T ++ nin B5.ow v.Looks L) [] ((AH9 (Y5 v p.toNat x134.1) (t - 1).toNat (w8 (Ad1 tx) p.toNat x134.1.Term), true)) (qz9) rfl (show List.Perm (nin B1.ow (v.Txns.set (t - 1).toNat (w8 (Ad1 tx) p.toNat x134.1.Term)) T ++ nin B5.ow v.Looks L) ((nin B1.ow (v.Txns.set (t - 1).toNat (w8 (Ad1 tx) p.toNat x134.1.Term)) T ++ nin B5.ow v.Looks L) ++ []) from B6) BM0 K5
 intro gh134;refine Ai6 rfl rfl (j5 rfl rfl rfl) (fun hq => by rw [gh134] at hq; cases hq) (fun _ => ?_);refine A1 rfl (w_or rfl (A0 rfl) (BJ0 (x := AV.bool false) gh134)) ?_;refine R1 ?_;refine A2 ?_ ?_
 ·intro h136;refine R5 ?_;exact I3 [0, 0, 0, 0, 0, 0, 0] 3 (nwZ v T L) [] ((v, false)) (qz9) rfl (show List.Perm (nwZ v T L) ((nwZ v T L) ++ []) from B6) BM0 K5
 intro h136
 (exfalso; have h9 := gh134; simp at h9 h136; rw [h9] at h136; cases h136)
theorem By6 (u : Value) (l : List Int) (s : An8) (hl : l.length ≤ 1000) (hs : s.High ≤ 1000000 ∧ -1000000 ≤ s.High) : M7 231 [AV.is u, AV.agg s.cs] [.arr u 3 1 (l.map fun n => [AV.int n])] (fun _ : Unit => True) (fun _ => [.arr u 3 1 (l.map fun n => [AV.int n])]) (fun _ => AV.int (Ad0 (s.High + 1) l)) := by
 refine C5 Tryz.func231 rfl Tryz.ntmps231 rfl ?_;refine R3 ?_;intro b3;refine R17 ?_;refine AWP.le (B9 [1] rfl) ?_;refine K3 [(4, _), (11, _), (12, _)] _ (fun (i : Nat) (m : Int) => i ≤ l.length ∧ m = Ad0 (s.High + 1) (l.take i)) (fun i m => [.arr u 3 1 (l.map fun n => [AV.int n])]) (fun i m => [(5, AV.int m), (13, AV.int i)]) (fun i m => l.length - i) (0) (s.High + 1) ?_ (I6 B7 A5) ?_
 ·exact ⟨D6 _, rfl⟩
 intro i m hinv;refine R5 ?_;refine A2 ?_ ?_
 ·intro h14;have k14 := C6 h14;have hlt : i < l.length := (by simpa using h14);obtain ⟨x, hx⟩ := B3 hlt;refine R5 ?_;refine A1 rfl (H6 0 rfl C9 D0 (A0 rfl) rfl (A0 rfl) qz8 AG1) ?_;refine A1 rfl (AW1 0 rfl (A0 rfl) rfl P4 (flat1 (g := AV.int) hx)) ?_;refine R5 ?_;refine A1 rfl (A9 rfl Tryz.call153 rfl (AC3 _ _) E4) ?_;refine R6 ?_;refine G8 i m (i + 1) (m8 m x) ?_ ?_ (Le.trans (B9 [0] rfl) (I6 B7 A5))
  ·exact ⟨by omega, by rw [Bh4 hx, hinv.2]⟩
  omega
 intro h14;have k14 := C2 h14;have hge : l.length ≤ i := (by simpa using h14);rw [show m = Ad0 (s.High + 1) l from by rw [hinv.2, U1 hge]];refine R7 ?_;exact I2 [0] () (trivial) rfl B7 K5
theorem Ce0 (u : Value) (b : Nat) (w : E0) (X : WX) (T : List (Value × Value)) (L : List Value) (t lead : Int) (yes : Bool) (times : List Int) (gi : C8) (htl9 : times.length ≤ 1000) (hw : WI w) (h0 : 0 ≤ lead) (hx : w.Groups[lead.toNat]? = some gi) : M7 217 [AV.ptr b 0, AV.int t, AV.int lead, AV.bool yes, AV.is u] (.arr u 3 1 (times.map fun n => [AV.int n]) :: WB b w X T L) (fun v : C8 × Bool => WG v.1) (fun v => .arr u 3 1 (times.map fun n => [AV.int n]) :: WB b (Y5 w lead.toNat v.1) X T L) (fun v => AV.bool v.2) := by
 have hgi := hw.groups gi (C3 hx);have hng := hw.n;have hgl := (F4.1 hx).1;refine C5 Tryz.func217 rfl Tryz.ntmps217 rfl ?_;refine R13 ?_;refine A1 rfl (H6 3 rfl I0 D3 (A0 rfl) rfl (A0 rfl) qz8 AG1) ?_;refine A1 rfl (n2 3 rfl (A0 rfl) rfl M3 D3 qz5 D5) ?_;refine A1 rfl (A9 rfl Tryz.call187 rfl (AH7 gi hgi.good) L2) ?_;refine R2 ?_;refine A2 ?_ ?_
 ·intro h23;refine R5 ?_;exact I3 [0, 0, 0, 0, 0, 0, 0, 0] 0 (nwZ w T L) [] ((gi, false)) (BU0) rfl (show List.Perm (nwZ w T L) ((nwZ w T L) ++ []) from B6) BU1 K5
 intro h23;have hrd : AO5 gi = true := Aw5;have hl := AJ3 hrd;have hgs := AM0 hgi.good hl;have htl := hgs.tlen;obtain ⟨c, hc, hcg, hl3, hg2, hnow, hsl, hsh⟩ := BQ9 hw h0 hx hl;refine R6 ?_;refine A1 rfl (n3 [1, 1, 1, 1, 1, 1, 1] 1 (nwZ w T L) ([]) rfl Tryz.call166 rfl rfl (B6) (AV6 b w X T L lead gi hx h0 hgi.good hl) E4) ?_;refine R1 ?_;refine A1 rfl (A9 rfl Tryz.call127 rfl (AK5 (W0 gi) t qz8) E4) ?_;refine R4 ?_;intro b11;refine R7 ?_;refine A2 ?_ ?_
 ·intro h32;refine R4 ?_;refine J7 [2, 2, 2, 2, 2, 2, 2] 2 7 (nwZ w T L) ([]) (fun zz => nwZ w T L) rfl rfl rfl rfl Tryz.call170 rfl rfl (show List.Perm (nwZ w T L) ((nwZ w T L) ++ ([])) from B6) (Ad9 b w X T L lead gi hx h0 hgi) E4 (fun a => L9) ?_;intro x35 ok35;refine R6 ?_;exact I3 [8, 0, 0, 0, 0, 0, 0, 0] 1 (nwZ w T L) [] ((x35, true)) (BU0) rfl (show List.Perm (nwZ w T L) ((nwZ w T L) ++ []) from B6) BU1 K5
 intro h32;refine R6 ?_;intro b13;refine R7 ?_;refine A2 ?_ ?_
 ·intro h38;have hput := Ae0 b w X T L lead ⟨2, t, Ad0 ((AF3 c w.Now).High + 1) times, 0, [], [], true⟩ gi hx h0 hgi (show (0 : Nat) ≤ 1000 from by decide) (fun w9 hw9 => by cases hw9);refine R9 ?_;refine A1 rfl (n3 [3, 3, 3, 3, 3, 3, 3] 3 (nwZ w T L) ([]) rfl Tryz.call232 rfl rfl (B6) (Aw0 b w X T L lead gi c hx qz8 qz8 hc hcg hnow) E4) ?_;refine E6 [2] rfl rfl rfl rfl Tryz.call231 rfl (By6 u times (AF3 c w.Now) htl9 ⟨hsh, hsl⟩) E4 rfl ?_;intro x44 ok44;refine R8 ?_;refine J7 [3, 3, 3, 3, 3, 3, 3] 3 7 (nwZ w T L) ([]) (fun zz => nwZ w T L) rfl rfl rfl rfl Tryz.call164 rfl rfl (show List.Perm (nwZ w T L) ((nwZ w T L) ++ ([])) from B6) (hput) (A3 (A0 rfl) (A3 (A0 rfl) (A3 (AQ5 (A0 rfl) Al1) B2))) (fun a => L9) ?_;intro x49 ok49;refine R3 ?_;exact I3 [7, 0, 0, 0, 0, 0, 0, 0] 2 (nwZ w T L) [] ((x49.1, x49.2)) (BU0) rfl (show List.Perm (nwZ w T L) ((nwZ w T L) ++ []) from B6) BU1 K5
 intro h38;have hput := Ae0 b w X T L lead ⟨2, t, 0, 0, [], [], false⟩ gi hx h0 hgi (show (0 : Nat) ≤ 1000 from by decide) (fun w9 hw9 => by cases hw9);refine R6 ?_;refine J7 [3, 3, 3, 3, 3, 3, 3] 3 7 (nwZ w T L) ([]) (fun zz => nwZ w T L) rfl rfl rfl rfl Tryz.call164 rfl rfl (show List.Perm (nwZ w T L) ((nwZ w T L) ++ ([])) from B6) (hput) (A3 (A0 rfl) (A3 (A0 rfl) (A3 (AQ5 (A0 rfl) Al1) B2))) (fun a => L9) ?_;intro x49 ok49;refine R3 ?_;exact I3 [9, 0, 0, 0, 0, 0, 0, 0] 2 (nwZ w T L) [] ((x49.1, x49.2)) (BU0) rfl (show List.Perm (nwZ w T L) ((nwZ w T L) ++ []) from B6) BU1 K5
end Go.PQ
namespace Go.PQ
open Go.Proofs
open Go Go.AV Go.M
attribute [local irreducible] OpW OpA OpS AWP J3 K8 K0 OpE J6 H5 J9 Le Ev F8 L6 Z8 Int.tmod Int.tdiv IntKind.wrap Q7
theorem Cq0 (b : Nat) (w : E0) (X : WX) (T : List (Value × Value)) (L : List Value) (t : Int) (hw : WI w) (hq : ∀ tx, w.Txns[(t - 1).toNat]? = some tx → 0 ≤ tx.Begin ∧ tx.Begin < w.Count) (hT : T.length = w.Txns.length) (ht : 1 ≤ t ∧ (t - 1).toNat < w.Txns.length) : M7 200 [AV.ptr b 0, AV.int t] (WB b w X T L) (fun v : E0 × Bool => WI v.1 ∧ WS w v.1) (fun v => WB b v.1 X T L) (fun v => AV.bool v.2) := by
 have htn := hw.txns.1;obtain ⟨tx, htx⟩ := B3 ht.2;obtain ⟨y, hy⟩ := B3 (show (t - 1).toNat < T.length by omega);have htk := hw.txns.2 tx (C3 htx);have hz := htk.sizes;have hk := BR0 (got := tx.Got) htk.ops.2;have hpl : (AO8 w.Cuts tx).length ≤ 1000 := by
  have h1 := Bq7 w.Cuts (Ai2 (l5 tx.Got ++ U0 (Q4 tx.Ops tx.Got).2.2));have h2 := BE5 (l5 tx.Got ++ U0 (Q4 tx.Ops tx.Got).2.2);have h3 := Ae2 (f := fun s : Str => s.length) (l := l5 tx.Got);have h4 := Ae2 (f := A4.size) (l := (Q4 tx.Ops tx.Got).2.2);rw [G3, show (U0 (Q4 tx.Ops tx.Got).2.2).length = (Q4 tx.Ops tx.Got).2.2.length from A6 ..] at h2;unfold AO8;omega
 refine C5 Tryz.func200 rfl Tryz.ntmps200 rfl ?_;refine R5 ?_;refine AWP.le (Q8 7 (t := ([Go.AV.Own.arr y.1 80 3 (tx.Got.map H4.cs), Go.AV.Own.arr y.2 3 1 (tx.Terms.map fun n => [AV.int n])]) ++ (nin B1.ow (w.Txns.eraseIdx (t - 1).toNat) (T.eraseIdx (t - 1).toNat) ++ nin B5.ow w.Looks L)) (AR2 htx hy)) ?_;refine P3 _ [(0, false), (1, false), (2, false), (3, false), (4, false), (5, false), (6, false), (7, false), (8, false), (9, false), (10, false), (11, false), (12, false), (13, false), (14, true), (15, false), (16, false), (17, false), (18, false), (19, false), (20, false), (21, false), (22, false)] E3 E3 rfl (S8 7) ?_;refine R12 ?_;refine P1 rfl rfl rfl (fun ext => H6 5 rfl M5 S4 (A0 rfl) rfl (A0 rfl) qz8 Al6) ?_;refine P1 rfl rfl rfl (fun ext => n2 5 rfl (A0 rfl) rfl Tryz.isAgg132 S4 qz2 D5) ?_;refine U2 rfl rfl rfl (r6 7 (S5 [7, 7] rfl Tryz.call107 rfl (CG5 w.Cuts tx y htk.sb) E4 rfl)) (fun a _ => qz4) ?_;intro x31 ok31;refine R13 ?_;refine AWP.le (B9 [0, 0, 0, 0, 0, 0, 0, 0, 0] rfl) ?_;refine AWP.le (Q8 7 (t := nwZ w T L) ((AR2 htx hy).symm)) ?_;refine K2 AT4 ?_;refine R4 ?_;refine A2 ?_ ?_
 ·intro h37;refine R5 ?_;exact I3 [0, 0, 0, 0, 0, 0, 0] 0 (nwZ w T L) [] ((w, false)) (qz66) rfl (show List.Perm (nwZ w T L) ((nwZ w T L) ++ []) from B6) B7 K5
 intro h37;have hso : Ah0 tx = true := (by simpa using h37);obtain ⟨p0, hp0⟩ := CG2 (cuts := w.Cuts) hso;have hpr := By4 (C3 hp0);obtain ⟨g0, hx0⟩ := Bl2 hw hpr;refine R7 ?_;refine A1 rfl (C7 rfl C9 D0 (A0 rfl) I7 hp0 qz3) ?_;refine R1 ?_;refine J7 [0, 0, 0, 0, 0, 0, 0] 0 7 (nwZ w T L) ([]) (fun zz => nwZ zz.1 T L) rfl rfl rfl rfl Tryz.call216 rfl rfl (show List.Perm (nwZ w T L) ((nwZ w T L) ++ ([])) from B6) (CW7 b w X T L t p0 g0 hw hq hT ht hpr.1 hx0) AD6 (fun a => L9) ?_;intro x44 ok44;refine R7 ?_;refine K2 AT4 ?_;refine R3 ?_;refine A2 ?_ ?_
 ·intro h47;refine R6 ?_;exact I3 [0, 0, 0, 0, 0, 0, 0] 0 (nwZ x44.1 T L) [] ((x44.1, x44.2.1)) (qz66) rfl (show List.Perm (nwZ x44.1 T L) ((nwZ x44.1 T L) ++ []) from B6) B7 K5
 intro h47;refine R3 ?_;refine T6 3 1 rfl rfl rfl rfl H3 ?_;intro v11;refine R9 ?_;refine AWP.le (B9 [0] rfl) ?_;refine V5 [(0, _), (1, _), (5, _), (6, _), (7, _), (49, _), (50, _)] _ (fun (i : Nat) (tm : List Int) (u : Value) => i ≤ (AO8 w.Cuts tx).length ∧ tm.length = i) (fun i tm u => [.arr u 3 1 (tm.map fun n => [AV.int n])]) (fun i tm u => [(11, AV.is u), (51, AV.int i)]) (fun i tm u => (AO8 w.Cuts tx).length - i) (0) ([]) (v11) ?_ (I6 B7 A5) ?_
 ·exact ⟨D6 _, rfl⟩
 intro i tm u hinv;refine R5 ?_;refine A2 ?_ ?_
 ·intro h52;have k52 := C6 h52;have hlt : i < (AO8 w.Cuts tx).length := (by simpa using h52);obtain ⟨p, hp⟩ := B3 hlt;have hpi := By4 (C3 hp);obtain ⟨gp, hxp⟩ := Bl2 ok44.wi (by rw [ok44.ws.cuts]; exact hpi);have hgp := ok44.wi.groups gp (C3 hxp);have hgpl := (F4.1 hxp).1;have hsh := (CD0 hgp.good).hlen;have hTv : T.length = x44.1.Txns.length := hT.trans ok44.ws.txns.symm;have htv : (t - 1).toNat < x44.1.Txns.length := qz8;refine R5 ?_;refine A1 rfl (C7 rfl C9 D0 (A0 rfl) (A0 rfl) hp qz3) ?_;refine R11 ?_;refine A1 rfl (H6 3 rfl I0 D3 (A0 rfl) rfl (A0 rfl) qz8 Al6) ?_;refine A1 rfl (n2 3 rfl (A0 rfl) rfl M3 D3 (by first | exact (P0 hxp) | exact B0 ((P0 hxp)) | exact B0 (B0 ((P0 hxp))) | exact B0 (B0 (B0 ((P0 hxp)))) | exact B0 (B0 (B0 (B0 ((P0 hxp))))) | exact B0 (B0 (B0 (B0 (B0 ((P0 hxp))))))) D5) ?_;refine A1 rfl (A9 rfl Tryz.call126 rfl (BY9 gp hgp.good) L2) ?_;refine R1 ?_;refine A1 rfl (A9 rfl Tryz.call207 rfl (Ac2 (Ag8 gp) t qz8) E4) ?_;refine R4 ?_;intro b14;refine R9 ?_;refine A2 ?_ ?_
  ·intro h70;refine R6 ?_;refine A1 rfl (C7 rfl C9 D0 (A0 rfl) I7 hp0 qz3) ?_;refine R3 ?_;refine J7 [2, 2, 2, 2, 2, 2, 2] 2 7 (nwZ x44.1 T L) ([]) (fun zz => nwZ zz.1 T L) rfl rfl rfl rfl Tryz.call220 rfl rfl (show List.Perm (nwZ x44.1 T L) ((nwZ x44.1 T L) ++ ([])) from B6) (Cd9 b x44.1 X T L t p p0 (l5 tx.Got) (Q4 tx.Ops tx.Got).2.2 gp ok44.wi hTv ⟨ht.1, htv⟩ hpi.1 hxp hz hk) (A3 (A0 rfl) (A3 (A0 rfl) BI4)) (fun a => L9) ?_;intro x79 ok79;refine R3 ?_;exact I3 [0, 0, 0, 0, 0, 0, 0] 2 (nwZ x79.1 T L) [] ((x79.1, x79.2)) (qz66) rfl (show List.Perm (nwZ x79.1 T L) ((nwZ x79.1 T L) ++ []) from B6) B7 K5
  intro h70;refine R6 ?_;refine H0 (by' := 8) 1 rfl rfl rfl rfl C9 Tryz.type3 rfl rfl rfl rfl rfl rfl (A0 rfl) (A0 rfl) rfl Az6 ?_;intro v84_1;refine R6 ?_;refine P2 i tm u (i + 1) (tm ++ [(AM1 (Ag8 gp).Held t).1.Time]) (v84_1) ?_ ?_ (Le.trans (B9 [0, 0] rfl) (E8 1 BC8 A5))
  ·exact ⟨by omega, by rw [G3, hinv.2]; rfl⟩
  omega
 intro h52;have k52 := C2 h52;refine R2 ?_;refine K2 AT4 ?_;refine R4 ?_;refine A1 rfl (C7 rfl C9 D0 (A0 rfl) I7 hp0 qz3) ?_;refine R2 ?_;refine J7 [0, 0, 0, 0, 0, 0, 0, 0] 0 8 (nwZ x44.1 T L) ([]) (fun zz => nwZ x44.1 T L) rfl rfl rfl rfl Tryz.call217 rfl rfl (show List.Perm (nwZ x44.1 T L) ((nwZ x44.1 T L) ++ ([])) from B6) (Ce0 u b x44.1 X T L t p0 true tm g0 qz8 ok44.wi hpr.1 (by rw [ok44.gr]; exact hx0)) (A3 (A0 rfl) (A3 (A0 rfl) (A3 (A0 rfl) (A3 AV9 L2)))) (fun a => L9) ?_;intro x92 ok92;refine R3 ?_;exact I3 [1, 1, 1, 1, 1, 1, 1] 1 (nwZ x44.1 T L) [] ((Y5 x44.1 p0.toNat x92.1, x92.2)) (qz66) rfl (show List.Perm (nwZ x44.1 T L) ((nwZ x44.1 T L) ++ []) from B6) B7 K5
theorem dead_own (b : Nat) (w : E0) (X : WX) (T : List (Value × Value)) (L : List Value) (t : Int) (hw : WI w) (hq : ∀ tx, w.Txns[(t - 1).toNat]? = some tx → 0 ≤ tx.Begin ∧ tx.Begin < w.Count) (hT : T.length = w.Txns.length) (ht : 1 ≤ t ∧ (t - 1).toNat < w.Txns.length) : M7 197 [AV.ptr b 0, AV.int t] (WB b w X T L) (fun v : E0 × Bool => WI v.1 ∧ WS w v.1) (fun v => WB b v.1 X T L) (fun v => AV.bool v.2) := by
 have htn := hw.txns.1;obtain ⟨tx, htx⟩ := B3 ht.2;obtain ⟨y, hy⟩ := B3 (show (t - 1).toNat < T.length by omega);have htk := hw.txns.2 tx (C3 htx);have hwf := wf_end hw htx (hq tx htx);obtain ⟨W', hW⟩ : ∃ W', AH9 w (t - 1).toNat (Bu2 tx w.Count) = W' := ⟨_, rfl⟩;rw [hW] at hwf;have hfr := BQ7 b W' X T L t hwf.wi;refine C5 Tryz.func197 rfl Tryz.ntmps197 rfl ?_;refine R13 ?_;refine A1 rfl (H6 5 rfl M5 S4 (A0 rfl) rfl (A0 rfl) qz8 Al6) ?_;refine R6 ?_;refine A1 rfl (X1 5 rfl (A0 rfl) rfl qz2 rfl) ?_;refine A1 rfl (L0 5 rfl I8 rfl S0 (A0 rfl) rfl rfl qz2) ?_;refine A1 rfl (M6 5 rfl (A0 rfl) rfl AA3 qz2 rfl) ?_;refine R2 ?_;refine A2 ?_ ?_
 ·intro h24;refine R8 ?_;refine A1 rfl (X1 5 rfl (A0 rfl) rfl qz2 rfl) ?_;refine A1 rfl (L0 5 rfl I8 rfl D0 (A0 rfl) rfl rfl qz2) ?_;refine X3 5 rfl rfl rfl (A0 rfl) (A0 rfl) (Z2 _ _) rfl D0 qz2 rfl ?_;refine R2 ?_;refine K2 (show _ = WB b W' X T L from (by rw [← hW]; unfold WB AH9; dsimp only; rw [AJ4 htx hy, Ac5 (p' := Bu2 tx w.Count) htx (fun _ => rfl)]; rfl)) ?_;refine R3 ?_;refine J7 [0, 0, 0, 0, 0, 0, 0] 0 7 (nin B1.ow W'.Txns T ++ nin B5.ow W'.Looks L) ([]) (fun zz => nin B1.ow W'.Txns T ++ nin B5.ow W'.Looks L) rfl rfl rfl rfl Tryz.call185 rfl rfl (show List.Perm (nin B1.ow W'.Txns T ++ nin B5.ow W'.Looks L) ((nin B1.ow W'.Txns T ++ nin B5.ow W'.Looks L) ++ ([])) from B6) (hfr) E4 (fun a => L9) ?_;intro x35 ok35;refine R6 ?_;exact I3 [0, 0, 0, 0, 0, 0, 0] 0 (nin B1.ow W'.Txns T ++ nin B5.ow W'.Looks L) [] ((AR8 W' x35, true)) (qz59) rfl (show List.Perm (nin B1.ow W'.Txns T ++ nin B5.ow W'.Looks L) ((nin B1.ow W'.Txns T ++ nin B5.ow W'.Looks L) ++ []) from B6) B7 K5
 intro h24;refine R2 ?_;refine AWP.le (Q8 7 (t := ([Go.AV.Own.arr y.1 80 3 (tx.Got.map H4.cs), Go.AV.Own.arr y.2 3 1 (tx.Terms.map fun n => [AV.int n])]) ++ (nin B1.ow (w.Txns.eraseIdx (t - 1).toNat) (T.eraseIdx (t - 1).toNat) ++ nin B5.ow w.Looks L)) (AR2 htx hy)) ?_;refine P3 _ [(0, false), (1, false), (2, false), (3, false), (4, false), (5, false), (6, false), (7, false), (8, true), (9, false), (10, false), (11, false), (12, false), (13, false), (14, false), (15, false), (16, false)] E3 E3 rfl (S8 7) ?_;refine R6 ?_;refine P1 rfl rfl rfl (fun ext => X1 5 rfl (A0 rfl) rfl qz2 rfl) ?_;refine P1 rfl rfl rfl (fun ext => n2 5 rfl (A0 rfl) rfl Tryz.isAgg132 S4 qz2 D5) ?_;refine U2 rfl rfl rfl (r6 7 (S5 [7, 7] rfl Tryz.call107 rfl (CG5 w.Cuts tx y htk.sb) E4 rfl)) (fun a _ => qz4) ?_;intro x45 ok45;refine R13 ?_;refine AWP.le (B9 [0, 0, 0, 0, 0, 0, 0, 0, 0] rfl) ?_;refine AWP.le (Q8 7 (t := nwZ w T L) ((AR2 htx hy).symm)) ?_;refine K2 AT4 ?_;refine R4 ?_;refine A2 ?_ ?_
 ·intro h51;refine R5 ?_;exact I3 [0, 0, 0, 0, 0, 0, 0] 0 (nwZ w T L) [] ((w, false)) (qz59) rfl (show List.Perm (nwZ w T L) ((nwZ w T L) ++ []) from B6) B7 K5
 intro h51;have hso : Ah0 tx = true := (by simpa using h51);obtain ⟨p0, hp0⟩ := CG2 (cuts := w.Cuts) hso;have hpr := By4 (C3 hp0);obtain ⟨g0, hx0⟩ := Bl2 hw hpr;refine R7 ?_;refine A1 rfl (C7 rfl C9 D0 (A0 rfl) I7 hp0 qz3) ?_;refine R1 ?_;refine J7 [0, 0, 0, 0, 0, 0, 0] 0 7 (nwZ w T L) ([]) (fun zz => nwZ zz.1 T L) rfl rfl rfl rfl Tryz.call216 rfl rfl (show List.Perm (nwZ w T L) ((nwZ w T L) ++ ([])) from B6) (CW7 b w X T L t p0 g0 hw hq hT ht hpr.1 hx0) AD6 (fun a => L9) ?_;intro x58 ok58;refine R7 ?_;refine K2 AT4 ?_;refine R3 ?_;refine A2 ?_ ?_
 ·intro h61;refine R6 ?_;exact I3 [0, 0, 0, 0, 0, 0, 0] 0 (nwZ x58.1 T L) [] ((x58.1, x58.2.1)) (qz59) rfl (show List.Perm (nwZ x58.1 T L) ((nwZ x58.1 T L) ++ []) from B6) B7 K5
 intro h61;refine R6 ?_;refine A1 rfl (C7 rfl C9 D0 (A0 rfl) I7 hp0 qz3) ?_;refine R1 ?_;refine J7 [0, 0, 0, 0, 0, 0, 0] 0 7 (nwZ x58.1 T L) ([]) (fun zz => nwZ x58.1 T L) rfl rfl rfl rfl Tryz.call217 rfl rfl (show List.Perm (nwZ x58.1 T L) ((nwZ x58.1 T L) ++ ([])) from B6) (Cp4 b x58.1 X T L t p0 false [] g0 ok58.wi hpr.1 (by rw [ok58.gr]; exact hx0)) (A3 (A0 rfl) (A3 (A0 rfl) (A3 (A0 rfl) (A3 AV9 (A3 O2 B2))))) (fun a => L9) ?_;intro x68 ok68;refine R3 ?_;exact I3 [0, 0, 0, 0, 0, 0, 0] 0 (nwZ x58.1 T L) [] ((Y5 x58.1 p0.toNat x68.1, x68.2)) (qz59) rfl (show List.Perm (nwZ x58.1 T L) ((nwZ x58.1 T L) ++ []) from B6) B7 K5
end Go.PQ
namespace Go.PQ
open Go.Proofs
open Go Go.AV Go.M
attribute [local irreducible] OpW OpA OpS AWP J3 K8 K0 OpE J6 H5 J9 Le Ev F8 L6 Z8 Int.tmod Int.tdiv IntKind.wrap Q7
theorem Cy4 (w : E0) (hw : WI w) : M7 81 [AV.agg w.cs] [] (fun x : List B4 × Value => x.1.length ≤ 10 ∧ r4 x.1) (fun x => [.arr x.2 51 8 (x.1.map B4.cs)]) (fun x => AV.is x.2) := by
 have hng := hw.n;have htl := hw.txns.1;have hll := hw.looks.1;have hsl : (w.Groups.map Ag8).length ≤ 10 := by rw [A6]; omega
 have hst : ∀ s ∈ w.Groups.map Ag8, s.Told.length ≤ 100 := fun s hs => by
  obtain ⟨g, hg, rfl⟩ := n8.1 hs;exact L4 (CD0 (hw.groups g hg).good).tlen D5
 refine C5 Tryz.func81 rfl Tryz.ntmps81 rfl ?_;refine R3 ?_;intro b1;refine A1 rfl (D8 rfl H3) ?_;refine R3 ?_;refine T6 51 8 rfl rfl rfl rfl H3 ?_;intro v3;refine R4 ?_;refine A1 rfl (A9 rfl Tryz.call105 rfl (Bs0 w hw) L2) ?_;refine R11 ?_;refine AWP.le (B9 [0] rfl) ?_;refine V5 [(1, _), (2, _), (4, _), (19, _), (20, _)] _ (fun (i : Nat) (h : List B4) (v : Value) => (i ≤ w.Txns.length ∧ h.length ≤ i) ∧ r4 h) (fun i h v => [.arr v 51 8 (h.map B4.cs)]) (fun i h v => [(3, AV.is v), (21, AV.int i)]) (fun i h v => w.Txns.length - i) (0) ([]) (v3) ?_ (I6 B7 A5) ?_
 ·exact ⟨⟨D6 _, L5 _⟩, Cp5⟩
 intro i h v hinv;refine R5 ?_;refine A2 ?_ ?_
 ·intro h22;have k22 := C6 h22;have hlt : i < w.Txns.length := BL4;obtain ⟨t, ht⟩ := B3 hlt;have htk := hw.txns.2 t (C3 ht);have hgl := htk.got.1;refine R6 ?_;refine A1 rfl (C7 rfl M5 S4 (A0 rfl) (A0 rfl) ht qz3) ?_;refine R2 ?_;intro b6;refine R10 ?_;refine A2 ?_ ?_
  ·intro h28;refine R5 ?_;refine P2 i h v (i + 1) (h) (v) ?_ ?_ (Le.trans (B9 [0, 0] rfl) (E8 1 Az5 A5))
   ·exact ⟨⟨by omega, by omega⟩, hinv.2⟩
   omega
  intro h28;refine R11 ?_;intro b7;refine R3 ?_;refine AWP.le (Ad4 0 6 3 rfl rfl Q2) ?_;refine AWP.le (Ad4 0 7 3 rfl rfl Q2) ?_;refine R4 ?_;refine E6 [] rfl rfl rfl rfl Tryz.call106 rfl (CJ9 (w.Groups.map Ag8) ((i : Int) + 1) hsl hst) E4 rfl ?_;intro x40 ok40;obtain ⟨td, htd⟩ := Ap6 x40.1 0;refine R14 ?_;refine N4 rfl (fun hc => C7 rfl N3 U6 (A8 rfl hc) I7 (htd (by simp at hc; omega)) qz6) ?_;refine R4 ?_;refine A2 ?_ ?_
  ·intro h51;have htd1 := htd (by simp at h51; have h9 := h51.1; omega);refine R5 ?_;refine A1 rfl (A9 rfl Tryz.call107 rfl (Cp2 w.Cuts t htk.sb) E4) ?_;refine R18 ?_;refine A1 rfl (C7 rfl N3 U6 (A0 rfl) I7 htd1 qz3) ?_;refine R7 ?_;refine S9 rfl rfl rfl rfl M9 U3 ?_;intro v67;refine R2 ?_;refine H0 (by' := 40) 0 rfl rfl rfl rfl M9 Tryz.type80 rfl rfl rfl rfl rfl rfl (A0 rfl) (A0 rfl) rfl qz3 ?_;intro v70_1;refine R1 ?_;refine V0 0 rfl fun one_v70_1 => ?_;refine T2 1 rfl rfl rfl (A0 rfl) (A0 rfl) (O8 one_v70_1) rfl Q6 rfl ?_;refine R1 ?_;refine AWP.le (Ap5 [0] 0 (.box b7 51 [AV.int ((i : Int) + 1), AV.int t.Begin, AV.int t.End, AV.bool true, AV.bool false, AV.int td.Time, AV.list 3 (t.Got.map H4.cs), AV.list 3 []]) rfl rfl ⟨rfl, rfl, (E2 J0 (E2 J0 (E2 J0 (E2 J0 (E2 J0 (E2 J0 (E2 (M1 (C3 (i := 0) rfl) G6) (E2 J0 o5))))))))⟩ Q2) ?_;refine R9 ?_;refine H0 (by' := 88) 2 rfl rfl rfl rfl G2 Tryz.type51 rfl rfl rfl rfl rfl rfl (A0 rfl) (A0 rfl) rfl Az6 ?_;intro v77_2;refine R6 ?_;refine P2 i h v (i + 1) (h ++ [⟨(i : Int) + 1, t.Begin, t.End, true, false, td.Time, t.Got, (Q4 t.Ops t.Got).2.2⟩]) (v77_2) ?_ ?_ (Le.trans (B9 [0, 0, 0] rfl) (E8 2 Az5 A5))
   ·exact ⟨⟨by omega, by rw [G3]; simp; omega⟩, hinv.2.snoc (BR0 htk.ops.2) (CK0 htk)⟩
   omega
  intro h51;refine R5 ?_;refine H0 (by' := 88) 2 rfl rfl rfl rfl G2 Tryz.type51 rfl rfl rfl rfl rfl rfl (A0 rfl) (A0 rfl) rfl Az6 ?_;intro v77_3;refine R6 ?_;refine P2 i h v (i + 1) (h ++ [⟨(i : Int) + 1, t.Begin, t.End, false, false, 0, [], []⟩]) (v77_3) ?_ ?_ (Le.trans (B9 [0, 0, 0] rfl) (E8 2 Az5 A5))
  ·exact ⟨⟨by omega, by rw [G3]; simp; omega⟩, hinv.2.snoc (fun w9 hw9 => by cases hw9) (show (0 : Nat) ≤ 5000 by decide)⟩
  omega
 intro h22;have k22 := C2 h22;refine R10 ?_;refine AWP.le (B9 [0] rfl) ?_;refine V5 [(2, _), (80, _), (81, _)] _ (fun (j : Nat) (h1 : List B4) (u : Value) => (j ≤ w.Looks.length ∧ h1.length ≤ 6 + j) ∧ r4 h1) (fun j h1 u => [.arr u 51 8 (h1.map B4.cs)]) (fun j h1 u => [(3, AV.is u), (82, AV.int j)]) (fun j h1 u => w.Looks.length - j) (0) (h) (v) ?_ (I6 B7 A5) ?_
 ·exact ⟨⟨D6 _, by omega⟩, hinv.2⟩
 intro j h1 u hinv;refine R5 ?_;refine A2 ?_ ?_
 ·intro h83;have k83 := C6 h83;have hlt1 : j < w.Looks.length := (by simpa using h83);obtain ⟨q, hq⟩ := B3 hlt1;have hqk := hw.looks.2 q (C3 hq);have hqg := hqk.got.1;have hqn := hqk.keys.1;refine R6 ?_;refine A1 rfl (C7 rfl AH5 Tryz.sizeOf141 (A0 rfl) (A0 rfl) hq qz3) ?_;refine R2 ?_;intro b15;refine R18 ?_;refine A2 ?_ ?_
  ·intro h98;refine AWP.le (B9 [0] rfl) ?_;refine P3 _ [(0, false), (1, false), (2, false), (3, false), (4, false), (5, false), (6, false), (7, false), (8, false), (10, false), (11, false), (9, true), (12, true), (13, false), (14, false), (15, true)] E3 E3 rfl (S8 1) ?_;refine R11 ?_;refine U2 rfl rfl rfl (AB4 rfl M9 U3) (fun a _ => qz4) ?_;intro v108 _;refine U2 rfl rfl rfl (Ab5 [3] (fun _ => rfl) (fun _ => M1 (C3 (i := 0) rfl) G6) (fun _ => Q2) (L8 (by' := 40) 3 rfl M9 Tryz.type80 rfl rfl rfl rfl rfl rfl (A0 rfl) (A0 rfl) rfl qz3)) (fun a _ => qz4) ?_;intro v111_4 _;refine R2 ?_;refine U2 rfl rfl rfl (L8 (by' := 88) 1 rfl G2 Tryz.type51 rfl rfl rfl rfl rfl rfl (A0 rfl) (A0 rfl) rfl Az6) (fun a _ => qz4) ?_;intro v114_5 _;refine R3 ?_;refine AWP.le (Ai7 3 1 (.arr v114_5 51 8 (_)) rfl (⟨rfl, rfl, rfl, by first | exact CG7 (h := h1) (d := ⟨50 + (j : Int), q.Begin, q.End, true, true, q.Time, q.Got, []⟩) (E2 J0 (E2 J0 (E2 J0 (E2 J0 (E2 J0 (E2 J0 (E2 J0 (E2 Bc2 o5)))))))) | exact G6⟩) Q2) ?_;refine R4 ?_;refine P2 j h1 u (j + 1) (h1 ++ [⟨50 + (j : Int), q.Begin, q.End, true, true, q.Time, q.Got, []⟩]) (v114_5) ?_ ?_ (Le.trans (B9 [0, 0] rfl) (E8 1 B7 A5))
   ·exact ⟨⟨by omega, by rw [G3]; simp; omega⟩, hinv.2.snoc (fun w9 hw9 => by cases hw9) (By5 hqk)⟩
   omega
  intro h98;refine R1 ?_;refine AWP.le (Ai7 3 1 (.arr u 51 8 (_)) rfl (⟨rfl, rfl, rfl, by first | exact CG7 (h := h1) (d := ⟨50 + (j : Int), q.Begin, q.End, true, true, q.Time, q.Got, []⟩) (E2 J0 (E2 J0 (E2 J0 (E2 J0 (E2 J0 (E2 J0 (E2 J0 (E2 Bc2 o5)))))))) | exact G6⟩) Q2) ?_;refine R4 ?_;refine P2 j h1 u (j + 1) (h1) (u) ?_ ?_ (Le.trans (B9 [0, 0] rfl) (E8 1 B7 A5))
  ·exact ⟨⟨by omega, by omega⟩, hinv.2⟩
  omega
 intro h83;have k83 := C2 h83;refine R7 ?_;exact I2 [0] ((h1, u)) (⟨by (show h1.length ≤ 10; omega), hinv.2⟩) rfl B7 K5
end Go.PQ
namespace Go.PQ
open Go.Proofs
open Go Go.AV Go.M
attribute [local irreducible] OpW OpA OpS AWP J3 K8 K0 OpE J6 H5 J9 Le Ev F8 L6 Z8 Int.tmod Int.tdiv IntKind.wrap Q7
theorem Aw1 (rows ws : List A4) (h : Af4 rows) (hw : ws.length ≤ 1000) : F6 36 [AV.list 3 (rows.map A4.cs), AV.list 3 (ws.map A4.cs)] (AV.list 3 ((a7 rows ws).map A4.cs)) := by
  have h1 := BK0 rows ws (by have := Go.M.Aq3 h.1.1 h.2; omega) qz8;rw [BV9 h.1.1] at h1;exact h1
theorem CH1 {rows : List A4} (h : Af4 rows) {w : A4} (hw : w ∈ rows) : w.size ≤ 100 := by
  have h1 := (h.1.2 w hw).2;unfold AM8 Ae8 AJ5 at h1;simp only [F0, I4] at h1;have h2 := (AK0 (h.2 w hw)).2;unfold A4.size; omega
theorem An4 (h : List B4) (hl : h.length ≤ 1000) : F6 29 [AV.list 8 (h.map B4.cs)] (AV.int (I1 h).length) := by
 rw [yes_eq];refine B8 Tryz.func29 rfl Tryz.ntmps29 rfl ?_;refine R16 ?_;refine K3 [(2, _), (6, _), (7, _)] _ (fun (i : Nat) (n : Nat) => i ≤ h.length ∧ n = ((List.range i).filterMap (BC6 h)).length ∧ n ≤ i) (fun i n => []) (fun i n => [(3, AV.int n), (8, AV.int i)]) (fun i n => h.length - i) (0) (0) ?_ (F5 A5) ?_
 ·exact ⟨D6 _, rfl, L5 _⟩
 intro i n hinv;refine R5 ?_;refine A2 ?_ ?_
 ·intro h9;have k9 := C6 h9;have hlt : i < h.length := Al4;obtain ⟨d, hd⟩ := B3 hlt;refine R5 ?_;refine A1 rfl (C7 rfl G2 L3 (A0 rfl) (A0 rfl) hd qz3) ?_;refine R2 ?_;intro b5;refine R7 ?_;refine A2 ?_ ?_
  ·intro h13;refine R9 ?_;refine G8 i n (i + 1) (n + 1) ?_ ?_ (Q1 1 A5)
   ·exact ⟨by omega, by rw [CW8 hd, D1 h13, ← hinv.2.1], by omega⟩
   omega
  intro h13;refine R5 ?_;refine G8 i n (i + 1) (n) ?_ ?_ (Q1 1 A5)
  ·exact ⟨by omega, by rw [CW8 hd, D4 (by rw [h13]; decide), ← hinv.2.1, Nat.add_zero], by omega⟩
  omega
 intro h9;have k9 := C2 h9;have hge : i = h.length := (by have h8 : h.length ≤ i := Al4; omega);subst hge;rw [← hinv.2.1];refine R7 ?_;exact E5 rfl (A7 rfl B7)
theorem BB8 (rows : List A4) (d : B4) (hd : d.size ≤ 1048576) : F6 35 [AV.list 3 (rows.map A4.cs), AV.agg d.cs] (AV.bool (j3 rows d)) := by
 have hgl : d.Got.length ≤ 1048576 := L4 P7 (show D2 H4.size d.Got ≤ 1048576 by unfold B4.size at hd; omega);refine B8 Tryz.func35 rfl Tryz.ntmps35 rfl ?_;refine R3 ?_;intro b3;refine R11 ?_;refine E9 [(0, _), (8, _), (9, _)] _ (fun (i : Nat) => i ≤ d.Got.length ∧ j3 rows d = ((d.Got.drop i).all fun g => decide (Aa0 rows g.Key = g))) (fun i => []) (fun i => [(10, AV.int i)]) (fun i => d.Got.length - i) (0) ?_ (F5 A5) ?_
 ·exact ⟨D6 _, rfl⟩
 intro i hinv;refine R5 ?_;refine A2 ?_ ?_
 ·intro h11;have k11 := C6 h11;have hlt : i < d.Got.length := (by simpa using h11);obtain ⟨g, hg⟩ := B3 hlt;refine R5 ?_;refine A1 rfl (C7 rfl M9 U3 (A0 rfl) (A0 rfl) hg qz3) ?_;refine R2 ?_;intro b6;refine R7 ?_;refine C1 rfl rfl (A9 rfl Tryz.call62 rfl (Bh7 rows g.Key) E4) ?_;refine R1 ?_;refine C1 rfl rfl (BU9 rfl AI6 E3 E3 (A0 rfl) (A0 rfl) (AE7 E3 AA4 rfl rfl (Ak1 M2) (AE7 E3 AA4 rfl rfl (Ak1 M2) (AE7 E3 AA3 rfl rfl (BA2 T9) BI7)))) ?_;refine R1 ?_;refine A2 ?_ ?_
  ·intro h19;have he9 : decide (Aa0 rows g.Key = g) = false := (by rw [Ci3] at h19; simpa using h19);have he8 : j3 rows d = false := (by rw [hinv.2, J2 hg, w5, he9, Bool.false_and]);rw [he8];refine R5 ?_;exact E5 rfl (A7 rfl B7)
  intro h19;have he9 : decide (Aa0 rows g.Key = g) = true := (by rw [Ci3] at h19; simpa using h19);refine R5 ?_;refine F7 i (i + 1) ?_ ?_ (Q1 1 A5)
  ·exact ⟨by omega, by rw [hinv.2, J2 hg, w5, he9, Bool.true_and]⟩
  omega
 intro h11;have k11 := C2 h11;have hge : d.Got.length ≤ i := (by simpa using h11);rw [hinv.2, l6 hge];refine R6 ?_;exact E5 rfl (A7 rfl B7)
theorem CX2 (h : List B4) (o : List Int) (i : Nat) (d : B4) (hd : h[i]? = some d) (hl : h.length ≤ 1000) (hg : X7 h = true) : M7 44 [AV.list 8 (h.map B4.cs), ints o, AV.int (i : Int)] [] (fun r : Bool => r = true → d.Yes = true ∧ (o.any fun y => (i : Int) == y) = false) (fun _ => []) (fun r => AV.bool r) := by
 refine C5 Tryz.func44 rfl Tryz.ntmps44 rfl ?_;refine R9 ?_;refine A1 rfl (C7 rfl G2 L3 (A0 rfl) (A0 rfl) hd qz3) ?_;refine R6 ?_;refine W9 rfl (fun hc => A9 rfl Tryz.call61 rfl (BF2 o (i : Int)) (A3 (A8 rfl hc) (A3 (A8 rfl hc) B2))) ?_;refine R2 ?_;refine A2 ?_ ?_
 ·intro h19;refine R5 ?_;exact I2 [] (false) (qz138) rfl B7 (N6 rfl (A7 rfl B7))
 intro h19;have hfy : d.Yes = true ∧ (o.any fun y => (i : Int) == y) = false := (by simpa using h19);refine R9 ?_;refine E9 [(0, _), (1, _), (2, _), (20, _), (21, _)] _ (fun (j : Nat) => j ≤ h.length) (fun j => []) (fun j => [(22, AV.int j)]) (fun j => h.length - j) (0) ?_ (F5 A5) ?_
 ·exact D6 _
 intro j hinv;refine R5 ?_;refine A2 ?_ ?_
 ·intro h23;have k23 := C6 h23;have hlt : j < h.length := Aw5;obtain ⟨x, hx⟩ := B3 hlt;have hxd := AV4 hg (C3 hx);refine R6 ?_;refine A1 rfl (C7 rfl G2 L3 (A0 rfl) (A0 rfl) hx qz3) ?_;refine R2 ?_;intro b8;refine R15 ?_;refine O6 rfl (P8 rfl rfl rfl) (fun hc => A9 rfl Tryz.call61 rfl (BF2 o (j : Int)) (A3 (A8 rfl hc) (A3 (A8 rfl hc) B2))) ?_;refine R6 ?_;refine O6 rfl (P8 rfl rfl rfl) (fun hc => C7 rfl G2 L3 (A8 rfl hc) (A8 rfl hc) hd qz6) ?_;refine R1 ?_;refine O6 rfl (P8 rfl rfl rfl) (fun hc => A9 rfl Tryz.call65 rfl (Av8 x d (Av7 hxd).2) (A3 (A8 rfl hc) (A3 (A8 rfl hc) B2))) ?_;refine R2 ?_;refine A2 ?_ ?_
  ·intro h47;refine R5 ?_;exact I2 [] (false) (qz138) rfl B7 (N6 rfl (A7 rfl B7))
  intro h47;refine R5 ?_;refine F7 j (j + 1) ?_ ?_ (Q1 1 A5)
  ·exact qz8
  omega
 intro h23;have k23 := C2 h23;refine R6 ?_;exact I2 [] (true) (qz138) rfl B7 (N6 rfl (A7 rfl B7))
theorem Ce1 (h : List B4) (hl : h.length ≤ 10) (hg : X7 h = true) (hd : r4 h) : ∀ (m : Nat) (o : List Int) (rows : List A4), (I1 h).length - o.length = m → AI4 h o → Af4 rows → M7 23 [AV.list 8 (h.map B4.cs), ints o, AV.list 3 (rows.map A4.cs)] [] (fun x : List Int × Bool => x.1.length ≤ 10) (fun _ => []) (fun x => AV.tup [ints x.1, AV.bool x.2]) := by
 intro m;induction m using Nat.strongRecOn
 rename_i m ih;intro o rows hm hf hrk;have hfl := hf.len;have hyl := Bx2 h;refine C5 Tryz.func23 rfl Tryz.ntmps23 rfl ?_;refine R2 ?_;refine A1 rfl (D8 rfl (O2 (sz := 1))) ?_;refine R8 ?_;refine A1 rfl (A9 rfl Tryz.call29 rfl (An4 h qz8) L2) ?_;refine R2 ?_;refine A2 ?_ ?_
 ·intro h16;have k16 := K6 h16;(try simp only [A6] at k16);refine R7 ?_;exact I2 [] ((o, true)) (qz141) rfl B7 (q8 rfl D5 (H7 (A7 rfl B7) (H7 (A7 rfl B7) l9)))
 intro h16;have k16 := J4 h16;(try simp only [A6] at k16);have hne : o.length < (I1 h).length := (by simp only [A6] at h16; have h9 := J4 h16; omega);refine R9 ?_;refine E9 [(0, _), (1, _), (2, _), (19, _)] _ (fun (i : Nat) => i ≤ h.length) (fun i => []) (fun i => [(20, AV.int i)]) (fun i => h.length - i) (0) ?_ (F5 A5) ?_
 ·exact D6 _
 intro i hinv;refine R5 ?_;refine A2 ?_ ?_
 ·intro h21;have k21 := C6 h21;have hlt : i < h.length := (by simpa using h21);obtain ⟨d, hdx⟩ := B3 hlt;have hds := hd.2 d (C3 hdx);have hdw := AY8 (AV4 hg (C3 hdx));have hdk := hd.1 d (C3 hdx);have hput := Au5 hrk hdw.2.1 hdk;have hwl : d.Writes.length ≤ 1000 := (by have h9 := Ae2 (f := A4.size) (l := d.Writes); have h8 : D2 A4.size d.Writes ≤ 5000 := (by unfold B4.size at hds; omega); have h7 := Go.M.Aq3 hdw.2.2 hdk; omega);refine R14 ?_;refine E6 [] rfl rfl rfl rfl Tryz.call44 rfl (CX2 h o i d hdx qz8 hg) AD6 rfl ?_;intro x26 ok26;refine R5 ?_;refine W9 rfl (fun hc => C7 rfl G2 L3 (A8 rfl hc) (A8 rfl hc) hdx qz6) ?_;refine R1 ?_;refine W9 rfl (fun hc => A9 rfl Tryz.call35 rfl (BB8 rows d qz8) (A3 (A8 rfl hc) (A3 (A8 rfl hc) B2))) ?_;refine R3 ?_;refine A2 ?_ ?_
  ·intro h36;refine R5 ?_;refine F7 i (i + 1) ?_ ?_ (F5 A5)
   ·exact qz8
   omega
  intro h36;have hfi := ok26 (by simp at h36; exact h36.1);have hf2 := hf.snoc hdx hfi.1 hfi.2;have hrec := ih ((I1 h).length - (o ++ [(i : Int)]).length) (by rw [G3]; simp; omega) (o ++ [(i : Int)]) (a7 rows d.Writes) rfl hf2 hput.1;rw [show ints (o ++ [(i : Int)]) = AV.list 1 ((o.map fun x => [AV.int x]) ++ [[AV.int (i : Int)]]) from D7 (AV.list 1) V1] at hrec;refine R6 ?_;refine A1 rfl (C7 rfl G2 L3 (A0 rfl) (A0 rfl) hdx qz3) ?_;refine R2 ?_;refine A1 rfl (A9 rfl Tryz.call36 rfl (Aw1 rows d.Writes hrk hwl) E4) ?_;refine R6 ?_;refine A1 rfl (A9 rfl Tryz.call37 rfl (BH1 (a7 rows d.Writes) qz110) (A3 (A0 rfl) B2)) ?_;refine R2 ?_;refine A2 ?_ ?_
  ·intro h46;refine R5 ?_;refine F7 i (i + 1) ?_ ?_ (F5 A5)
   ·exact qz8
   omega
  intro h46;refine R5 ?_;refine E6 [] rfl rfl rfl rfl Tryz.call45 rfl (AN3 o qz8) L2 rfl ?_;intro x50 ok50;refine R2 ?_;refine H0 (by' := 8) 0 rfl rfl rfl rfl C9 Tryz.type3 rfl rfl rfl rfl rfl rfl (A0 rfl) (A0 rfl) rfl qz3 ?_;intro v53_1;refine Aa4 (z8 [0] 53 rfl rfl (M1 (C3 (i := 0) rfl) G6) Q2) ?_;refine R1 ?_;refine E6 [] rfl rfl rfl rfl Tryz.call23 rfl (hrec) AD6 rfl ?_;intro x55 ok55;refine R10 ?_;refine A2 ?_ ?_
  ·intro h58;refine R7 ?_;exact I2 [] ((x55.1, true)) (qz141) rfl B7 (q8 rfl D5 (H7 (A7 rfl B7) (H7 (A7 rfl B7) l9)))
  intro h58;refine R5 ?_;refine F7 i (i + 1) ?_ ?_ (F5 A5)
  ·exact qz8
  omega
 intro h21;have k21 := C2 h21;refine R3 ?_;refine A1 rfl (D8 rfl (O2 (sz := 1))) ?_;refine R3 ?_;exact I2 [] (([], false)) (qz141) rfl B7 (q8 rfl D5 (H7 (A7 rfl B7) (H7 (A7 rfl B7) l9)))
theorem CK1 (h : List B4) (hl : h.length ≤ 10) (hd : r4 h) : M7 7 [AV.list 8 (h.map B4.cs)] [] (fun x : List Int × Bool × Bool => x.1.length ≤ 10) (fun _ => []) (fun x => AV.tup [ints x.1, AV.bool x.2.1, AV.bool x.2.2]) := by
 refine C5 Tryz.func7 rfl Tryz.ntmps7 rfl ?_;refine R2 ?_;refine A1 rfl (D8 rfl (O2 (sz := 1))) ?_;refine R7 ?_;refine A1 rfl (A9 rfl Tryz.call22 rfl (An2 h (fun d hdm => L4 (hd.2 d hdm) D5)) L2) ?_;refine R2 ?_;refine A2 ?_ ?_
 ·intro h9;refine R2 ?_;refine A1 rfl (D8 rfl (O2 (sz := 1))) ?_;refine R4 ?_;exact I2 [] (([], false, false)) ((by first | exact D6 _ | exact ok12)) rfl B7 (q8 rfl D5 (H7 (A7 rfl B7) (H7 (A7 rfl B7) (H7 (A7 rfl B7) l9))))
 intro h9;have hg : X7 h = true := Al4;refine R4 ?_;refine E6 [] rfl rfl rfl rfl Tryz.call23 rfl (Ce1 h hl hg hd _ [] [] rfl ⟨List.nodup_nil, fun n hn => by cases hn⟩ Au6) (A3 (A0 rfl) (A3 O2 (A3 O2 B2))) rfl ?_;intro x12 ok12;refine R15 ?_;exact I2 [] ((x12.1, x12.2, true)) ((by first | exact D6 _ | exact ok12)) rfl B7 (q8 rfl D5 (H7 (A7 rfl B7) (H7 (A7 rfl B7) (H7 (A7 rfl B7) l9))))
end Go.PQ
namespace Go.PQ
open Go.Proofs
open Go Go.AV Go.M
attribute [local irreducible] OpW OpA OpS AWP J3 K8 K0 OpE J6 H5 J9 Le Ev F8 L6 Z8 Int.tmod Int.tdiv IntKind.wrap Q7
theorem BZ4 {s k : Nat} (hs : s < 1024) : s / 2 ^ k < 4611686018427387904 := Nat.lt_of_le_of_lt (Nat.div_le_self _ _) qz8
theorem CK2 (h : List B4) (s : Nat) (n m : Int) (hs : s < 1024) (hn : n ∈ I1 h) (hm : m ∈ I1 h) (hl : h.length ≤ 10) : F6 57 [AV.int m, AV.eptr [AV.int (s : Int)], AV.eptr [AV.list 8 (h.map B4.cs)], AV.eptr [AV.int n]] (AV.bool (!s.testBit m.toNat && Go.M.AF8 (G7 h m) (G7 h n))) := by
  have hm0 := Go.M.AR1 hm;have hn0 := Go.M.AR1 hn;refine B8 Tryz.func57 rfl Tryz.ntmps57 rfl ?_;refine R8 ?_;refine C1 rfl rfl (CS4 rfl (A0 rfl) (A0 rfl) qz8 qz8) ?_;refine C1 rfl rfl (CS3 (b := 1) rfl (A0 rfl) I7 (BZ4 hs) D5) ?_;refine R4 ?_;refine O6 rfl (P8 rfl rfl rfl) (fun hc => C7 rfl G2 L3 (A8 rfl hc) (A8 rfl hc) (AA1 hm0) qz6) ?_;refine R3 ?_;refine O6 rfl (P8 rfl rfl rfl) (fun hc => C7 rfl G2 L3 (A8 rfl hc) (A8 rfl hc) (AA1 hn0) qz6) ?_;refine R1 ?_;refine O6 rfl (P8 rfl rfl rfl) (fun hc => A9 rfl Tryz.call48 rfl (Bq8 (G7 h m) (G7 h n)) (A3 (A8 rfl hc) (A3 (A8 rfl hc) B2))) ?_;refine R4 ?_;exact E5 rfl (A7 rfl (by exact D7 AV.bool (by rw [CS5])))
theorem BZ5 (h : List B4) (s : Nat) (n : Int) (hs : s < 1024) (hn : n ∈ I1 h) (hl : h.length ≤ 10) : F6 28 [AV.list 8 (h.map B4.cs), ints (I1 h), AV.int (s : Int), AV.int n] (AV.bool (AA8 h s n)) := by
  have hn0 := Go.M.AR1 hn;refine B8 Tryz.func28 rfl Tryz.ntmps28 rfl ?_;refine R2 ?_;refine Bb8 rfl rfl rfl rfl (A0 rfl) (Bi6 _ _) ?_;intro b4;refine Bb8 rfl rfl rfl rfl (A0 rfl) (CO3 _ _) ?_;intro b6;refine Bb8 rfl rfl rfl rfl (A0 rfl) (CO3 _ _) ?_;intro b7;refine R6 ?_;refine A1 rfl (CS4 rfl (A0 rfl) (A0 rfl) qz8 qz8) ?_;refine A1 rfl (CS3 (b := 1) rfl (A0 rfl) I7 (BZ4 hs) D5) ?_;refine R3 ?_;refine N4 rfl (fun hc => w_clo rfl rfl AD6) ?_;refine N4 rfl (fun hc => Ak0 rfl Tryz.call56 rfl (BQ1 (I1 h) (fun m => m ∈ I1 h) (fun m => !s.testBit m.toNat && Go.M.AF8 (G7 h m) (G7 h n)) (fun _ hm => hm)) (y5 _) (Z0 (evb (A8 rfl hc)) (Z0 (BN0 (evb_clo3 1 2 0 (A8 rfl hc) rfl rfl rfl) (Bi8 Tryz.call57 (fun m (hm : m ∈ I1 h) => CK2 h s n m AQ3 AQ3 hm AQ3))) AI5))) ?_;refine R5 ?_;exact E5 rfl (A7 rfl (by exact D7 AV.bool (by rw [CS5]; rfl)))
end Go.PQ
namespace Go.PQ
open Go.Proofs
open Go Go.AV Go.M
attribute [local irreducible] OpW OpA OpS AWP J3 K8 K0 OpE J6 H5 J9 Le Ev F8 L6 Z8 Int.tmod Int.tdiv IntKind.wrap Q7
theorem CK3 (rows ws : List A4) (h : Af4 rows) (hw : ws.length ≤ 1000) (hl : (a7 rows ws).length ≤ 8) : F6 27 [AV.list 3 (rows.map A4.cs), AV.list 3 (ws.map A4.cs)] (AV.tup [AV.list 3 ((a7 rows ws).map A4.cs), AV.bool true]) := by
  have h1 := BT2 rows ws (by have := Go.M.Aq3 h.1.1 h.2; omega) qz8;rw [CF4 h.1.1, D1 qz8] at h1;exact h1
theorem find_own (h : List B4) (hl : h.length ≤ 10) (hg : X7 h = true) (hd : Be0 h) (hz : ∀ d ∈ h, d.size ≤ 5000) (m : Nat) : ∀ (k s : Nat) (rows : List A4), AL6 h s = k → s < 1024 → Af4 rows → M7 21 [AV.agg [AV.list 8 (h.map B4.cs), ints (I1 h), AV.is (.map (some m))], AV.int (s : Int), AV.list 3 (rows.map A4.cs)] [.obj m (Ay7 h), .tab BI1] (fun _ : Unit => True) (fun _ => [.obj m (Ay7 h), .tab BI1]) (fun _ => AV.tup [ints (Bz9 (X4 h k s rows)), AV.bool (X4 h k s rows).isSome]) := by
 intro k;induction k using Nat.strongRecOn
 rename_i k ih;intro s rows hk hs hrk;have hyl := Bx2 h;have hrl := Go.M.Aq3 hrk.1.1 hrk.2;have hrc := rowK_c hrk.1;have hrz : ∀ w ∈ rows, w.size ≤ 100 := fun w hw => Cp6 hrk hw;have hlk := left_le h s;refine C5 Tryz.func21 rfl Tryz.ntmps21 rfl ?_;refine R3 ?_;intro b3;refine A1 rfl (D8 rfl (O2 (sz := 1))) ?_;refine R5 ?_;refine A1 rfl (Cf5 2 rfl rfl Tryz.call42 rfl (Cw8 (s : Int) qz8) L2 (by first | exact fun _ h => h | exact fun _ h => h.1)) ?_;refine R15 ?_;refine K3 [(1, _), (2, _), (3, _), (6, _), (7, _), (8, _), (23, _), (24, _)] _ (fun (i : Nat) (d : Bool) => i ≤ (I1 h).length ∧ d = ((I1 h).take i).all (fun n => s.testBit n.toNat)) (fun i d => []) (fun i d => [(9, AV.bool d), (25, AV.int i)]) (fun i d => (I1 h).length - i) (0) (true) ?_ (F5 A5) ?_
 ·exact ⟨D6 _, rfl⟩
 intro i d hinv;refine R5 ?_;refine A2 ?_ ?_
 ·intro h26;have k26 := C6 h26;have hlt : i < (I1 h).length := (by simpa using h26);obtain ⟨n0, hn0⟩ := B3 hlt;have hin0 := Go.M.AR1 (C3 hn0);refine R5 ?_;refine A1 rfl (C7 rfl C9 D0 (A0 rfl) (A0 rfl) hn0 qz3) ?_;refine R8 ?_;refine N4 rfl (fun hc => CS4 rfl (A8 rfl hc) (A8 rfl hc) qz8 qz8) ?_;refine N4 rfl (fun hc => CS3 (b := 1) rfl (A8 rfl hc) I7 (BZ4 hs) D5) ?_;refine R8 ?_;refine G8 i d (i + 1) ((d && s.testBit n0.toNat)) ?_ ?_ (F5 ⟨(D7 (fun z => some (AV.bool z)) (by rw [bit_one])), rfl, rfl, rfl, rfl, rfl, rfl, rfl, rfl, rfl, trivial⟩)
  ·exact ⟨by omega, by rw [Cx8 hn0, hinv.2]⟩
  omega
 intro h26;have k26 := C2 h26;have hge : (I1 h).length ≤ i := (by simpa using h26);have hdn : d = CM2 h s := (by rw [hinv.2, U1 hge]; rfl);rw [hdn];refine R6 ?_;refine A2 ?_ ?_
 ·intro h38;have hk0 : k = 0 := (by rw [← hk]; exact CD3.2 h38);subst hk0;rw [show X4 h 0 s rows = some [] from Bs2];refine R2 ?_;refine A1 rfl (D8 rfl (O2 (sz := 1))) ?_;refine R3 ?_;exact I2 [1, 1] () (trivial) rfl B7 AJ2
 intro h38;obtain ⟨k', rfl⟩ := left_pos h38 hk;refine R9 ?_;refine K3 [(1, _), (2, _), (3, _), (6, _), (7, _), (39, _), (40, _)] _ (fun (i : Nat) (t : Str) => i ≤ rows.length ∧ t = Aj6 s (rows.take i)) (fun i t => []) (fun i t => [(8, AV.str t), (41, AV.int i)]) (fun i t => rows.length - i) (0) (AH0 (s : Int)) ?_ (F5 A5) ?_
 ·exact ⟨D6 _, (Cx9 s rows).symm⟩
 intro i t hinv;refine R5 ?_;refine A2 ?_ ?_
 ·intro h42;have k42 := C6 h42;have hlt : i < rows.length := (by simpa using h42);obtain ⟨w, hw⟩ := B3 hlt;have hwz : w.Key.length + w.Val.length ≤ 100 := hrz w (C3 hw);have hkt := keyT_len (s := s) (rows := rows.take i) hs (fun x hx => hrz x (An6 hx)) Ba9;rw [← hinv.2] at hkt;refine R5 ?_;refine A1 rfl (C7 rfl C0 F2 (A0 rfl) (A0 rfl) hw qz3) ?_;refine R2 ?_;intro b13;refine R6 ?_;refine A1 rfl (Bb7 rfl (N9 (l := [32]) rfl) (A0 rfl) Bv0) ?_;refine A1 rfl (Bb7 rfl (A0 rfl) (N9 (l := [61]) rfl) Bv0) ?_;refine R2 ?_;refine A1 rfl (Bb7 rfl (A0 rfl) (A0 rfl) Bv0) ?_;refine A1 rfl (Bb7 rfl (A0 rfl) (A0 rfl) Bv0) ?_;refine R6 ?_;refine G8 i t (i + 1) (t ++ Ar2 w) ?_ ?_ (Q1 1 A5)
  ·exact ⟨by omega, by rw [Cu1 hw, hinv.2]⟩
  omega
 intro h42;have k42 := C2 h42;have hge : rows.length ≤ i := (by simpa using h42);have htk : t = Aj6 s rows := (by rw [hinv.2, U1 hge]);rw [htk];refine R3 ?_;refine BJ6 1 rfl fun x9 hx9 => ?_;obtain ⟨es, clock, rfl, hes⟩ := hx9;obtain ⟨r9, y9, hf9, hu9, hy9, hs9⟩ := CD5 hes (Aj6 s rows);refine AWP.le (B9 [1] rfl) ?_;refine R4 ?_;refine A1 rfl (w_look 0 rfl Tryz.underlying43 M2 (.inl rfl) Tryz.zeroValue4 (A0 rfl) (A0 rfl) rfl hf9 hu9) ?_;refine R1 ?_;refine A2 ?_ ?_
 ·intro h58;refine AWP.le (Au7 0 (Ay7 h) rfl fun x e => e ▸ ⟨es, clock, rfl, hes⟩) ?_;rw [show X4 h (k' + 1) s rows = none from (by have h9 := Cu2 hs hrc (hy9 h58); rw [hk] at h9; exact h9)];refine R2 ?_;refine A1 rfl (D8 rfl (O2 (sz := 1))) ?_;refine R3 ?_;exact I2 [0, 1] () (trivial) rfl B7 AJ2
 intro h58;refine AWP.le (Au7 0 (Ay7 h) rfl fun x e => e ▸ ⟨es, clock, rfl, hes⟩) ?_;refine R10 ?_;refine AWP.le (B9 [0, 1] rfl) ?_;refine E9 [(1, _), (2, _), (3, _), (8, _), (60, _), (61, _)] _ (fun (i : Nat) => i ≤ (I1 h).length ∧ ((I1 h).take i).findSome? (AY0 h k' s rows) = none) (fun i => [.obj m (Ay7 h), .tab BI1]) (fun i => [(62, AV.int i)]) (fun i => (I1 h).length - i) (0) ?_ (I6 B7 A5) ?_
 ·exact ⟨D6 _, rfl⟩
 intro i hinv;refine R5 ?_;refine A2 ?_ ?_
 ·intro h63;have k63 := C6 h63;have hlt2 : i < (I1 h).length := (by simpa using h63);obtain ⟨n, hn⟩ := B3 hlt2;have hny := C3 hn;have hin := Go.M.AR1 hny;have hdm := (An0 hin).1;have hdw := AY8 (AV4 hg hdm);have hput := Au5 hrk hdw.2.1 (hd _ hdm);have hwl : (G7 h n).Writes.length ≤ 1000 := BR1 hdw.1;refine R5 ?_;refine A1 rfl (C7 rfl C9 D0 (A0 rfl) (A0 rfl) hn qz3) ?_;refine R12 ?_;refine A1 rfl (A9 rfl Tryz.call28 rfl (BZ5 h s n hs hny hl) BI4) ?_;refine R5 ?_;refine W9 rfl (fun hc => C7 rfl G2 L3 (A8 rfl hc) (A8 rfl hc) (AA1 hin) qz6) ?_;refine R2 ?_;refine W9 rfl (fun hc => A9 rfl Tryz.call26 rfl (BT1 (G7 h n) rows hrk.1.1 qz8) (A3 (A8 rfl hc) (A3 (A8 rfl hc) B2))) ?_;refine R3 ?_;refine A2 ?_ ?_
  ·intro h83;have hcn : (AA8 h s n && j3 rows (G7 h n)) = false := (by revert h83; cases AA8 h s n <;> cases j3 rows (G7 h n) <;> simp);refine R5 ?_;refine F7 i (i + 1) ?_ ?_ (Le.trans (B9 [0, 0] rfl) (I6 B7 A5))
   ·exact ⟨by omega, by rw [Bs1 hn, hinv.2, CX0 hcn]; rfl⟩
   omega
  intro h83;have hct : (AA8 h s n && j3 rows (G7 h n)) = true := (by revert h83; cases AA8 h s n <;> cases j3 rows (G7 h n) <;> simp);have hbit := BB3 (show AA8 h s n = true from (by rw [F0] at hct; exact hct.1));have hadd := Aq5 hny hbit.1;have hrec := ih k' qz8 (AA9 s n) (a7 rows (G7 h n).Writes) qz8 (CS6 hs qz8) hput.1;refine R7 ?_;refine A1 rfl (C7 rfl G2 L3 (A0 rfl) (A0 rfl) (AA1 hin) qz3) ?_;refine R2 ?_;refine A1 rfl (A9 rfl Tryz.call27 rfl (CK3 rows (G7 h n).Writes hrk hwl hput.2) E4) ?_;refine R12 ?_;refine A2 ?_ ?_
  ·intro h96;exfalso; cases h96
  intro h96;refine R2 ?_;refine AWP.le (B9 [2] rfl) ?_;refine P3 _ [(0, false), (1, false), (2, false), (3, false), (4, false), (5, false), (6, true), (7, false), (8, false), (9, false), (10, false)] E3 E3 rfl Ak4 ?_;refine R3 ?_;refine P1 rfl rfl rfl (fun ext => w_shl1 rfl I7 (A0 rfl) qz8 qz8) ?_;refine P1 rfl rfl rfl (fun ext => w_orN rfl (A0 rfl) (A0 rfl) qz8 (CG9 qz8)) ?_;refine R1 ?_;refine U2 rfl rfl rfl (S5 [1, 1] rfl Tryz.call21 rfl (hrec) AD6 rfl) (fun a _ => qz4) ?_;intro x104 ok104;refine R11 ?_;refine A2 ?_ ?_
  ·intro h107;obtain ⟨r, hr⟩ := Option.isSome_iff_exists.1 h107;rw [show X4 h (k' + 1) s rows = some (n :: r) from (Ax9 h k' s rows).trans (some_at (f := AY0 h k' s rows) hn hinv.2 (by rw [Bl3 hct, hr]; rfl)), hr];have hrl9 := CG8 hr;have hrl8 : (Bz9 (some r)).length = r.length := rfl;refine R3 ?_;refine Bn3 rfl rfl rfl rfl C9 D0 Tryz.zeroValue3 rfl rfl rfl rfl (E1 (A0 rfl) (Z2 _ _) X0) rfl rfl ?_;intro v109;refine R1 ?_;refine H0 (by' := 8) 0 rfl rfl rfl rfl C9 Tryz.type3 rfl rfl rfl rfl rfl rfl (A0 rfl) (A0 rfl) rfl (by simp only [A6, H1, P6, S2]; omega) ?_;intro v111_1;refine Aa4 (z8 [0] 111 rfl rfl (M1 (C3 (i := 0) rfl) G6) (z7 1 rfl rfl (z7 2 rfl rfl Q2))) ?_;refine R4 ?_;exact I2 [1, 1] () (trivial) rfl B7 AJ2
  intro h107;have h107n : X4 h k' (AA9 s n) (a7 rows (G7 h n).Writes) = none := (by cases hq : X4 h k' (AA9 s n) (a7 rows (G7 h n).Writes) with | none => rfl | some r => rw [hq] at h107; cases h107);refine R5 ?_;refine F7 i (i + 1) ?_ ?_ (Le.trans (B9 [1, 1] rfl) (I6 B7 A5))
  ·exact ⟨by omega, by rw [Bs1 hn, hinv.2, Bl3 hct, h107n]; rfl⟩
  omega
 intro h63;have k63 := C2 h63;have hge2 : (I1 h).length ≤ i := (by simpa using h63);have hfn : X4 h (k' + 1) s rows = none := (by have h9 := hinv.2; rw [U1 hge2] at h9; exact h9);rw [hfn];refine R2 ?_;refine BJ6 0 rfl fun x9 hx9 => ?_;obtain ⟨es8, clock8, rfl, hes8⟩ := hx9;obtain ⟨r8, y8, hf8, hu8, hy8, hs8⟩ := CD5 hes8 (Aj6 s rows);refine AWP.le (B9 [0] rfl) ?_;refine R4 ?_;refine BX1 (Ay7 h) 0 rfl (.inl rfl) rfl Tryz.underlying43 M2 (.inl rfl) (A0 rfl) (A0 rfl) AV9 rfl hf8 hs8 (dead_put hes8 ⟨s, rows, hs, hrc, rfl, (by rw [hk]; exact hfn)⟩) ?_;refine R3 ?_;refine A1 rfl (D8 rfl (O2 (sz := 1))) ?_;refine R3 ?_;exact I2 [0, 0] () (trivial) rfl B7 AJ2
end Go.PQ
namespace Go.PQ
open Go.Proofs
open Go Go.AV Go.M
attribute [local irreducible] OpW OpA OpS AWP J3 K8 K0 OpE J6 H5 J9 Le Ev F8 L6 Z8 Int.tmod Int.tdiv IntKind.wrap Q7
theorem By7 (h : List B4) (hl : h.length ≤ 10) (hd : Be0 h) (hz : ∀ d ∈ h, d.size ≤ 5000) : F6 6 [AV.wt BI1 (AV.list 8 (h.map B4.cs))] (AV.tup [ints (AH2 h).1, AV.bool (AH2 h).2.1, AV.bool (AH2 h).2.2]) := by
 refine B8 Tryz.func6 rfl Tryz.ntmps6 rfl ?_;refine AWP.le (le_tab (t := 0) rfl) ?_;refine R2 ?_;refine A1 rfl (D8 rfl (O2 (sz := 1))) ?_;refine R7 ?_;refine A1 rfl (A9 rfl Tryz.call19 rfl (Aj2 h (fun d hdm => L4 (hz d hdm) D5)) L2) ?_;refine R2 ?_;refine A2 ?_ ?_
 ·intro h9;have he : AH2 h = ([], false, false) := (by unfold AH2; rw [D4 Al4]);rw [he];refine R2 ?_;refine A1 rfl (D8 rfl (O2 (sz := 1))) ?_;refine R4 ?_;exact X5 rfl D5 AJ1
 intro h9;have hg : X7 h = true := Al4;have he : AH2 h = (Bz9 (X4 h (I1 h).length 0 []), (X4 h (I1 h).length 0 []).isSome, true) := D1 hg;rw [he];refine R5 ?_;refine A1 rfl (A9 rfl Tryz.call20 rfl (BK3 h qz8) L2) ?_;refine Bk6 rfl rfl rfl rfl ?_;intro m14;refine Aa4 (Au7 0 (Ay7 h) rfl fun x e => e ▸ dead_new h) ?_;have one_m14 : (Value.map (some m14)).oneCell' = true := rfl;refine A1 rfl (j6 (places := #[(0, 1), (1, 1), (2, 1)]) rfl Tryz.underlying45 Tryz.zeroValue45 (fun w => by kernel_rfl) rfl (E1 (A0 rfl) (n1 _ _) (E1 (A0 rfl) (n1 _ _) (E1 (A0 rfl) (O8 one_m14) X0))) rfl) ?_;refine R1 ?_;refine E6 [0, 0] rfl rfl rfl rfl Tryz.call21 rfl (find_own h hl hg hd hz m14 (I1 h).length 0 [] (Ak7 h) D5 Au6) BI3 rfl ?_;intro x17 ok17;refine R15 ?_;exact X5 rfl D5 AJ1
theorem BK7 (h : List B4) (o : List Int) (i : Nat) (d : B4) (hd : h[i]? = some d) (hl : h.length ≤ 1000) (hg : X7 h = true) (hf : AI4 h o) : F6 44 [AV.list 8 (h.map B4.cs), ints o, AV.int (i : Int)] (AV.bool (d.Yes && AA8 h (Z4 o) (i : Int))) := by
 have hbi := hf.bit i;have hdi := AN4 hd;refine B8 Tryz.func44 rfl Tryz.ntmps44 rfl ?_;refine R9 ?_;refine A1 rfl (C7 rfl G2 L3 (A0 rfl) (A0 rfl) hd qz3) ?_;refine R6 ?_;refine W9 rfl (fun hc => A9 rfl Tryz.call61 rfl (BF2 o (i : Int)) (A3 (A8 rfl hc) (A3 (A8 rfl hc) B2))) ?_;refine R2 ?_;refine A2 ?_ ?_
 ·intro h19;have he : (d.Yes && AA8 h (Z4 o) (i : Int)) = false := (by rw [Bl4, hbi]; revert h19; cases d.Yes <;> cases (o.any fun y => (i : Int) == y) <;> simp);rw [he];refine R5 ?_;exact E5 rfl (A7 rfl B7)
 intro h19;have hfy : d.Yes = true ∧ (o.any fun y => (i : Int) == y) = false := (by simpa using h19);refine R9 ?_;refine E9 [(0, _), (1, _), (2, _), (20, _), (21, _)] _ (fun (j : Nat) => j ≤ h.length ∧ BI2 h (Z4 o) (i : Int) (yT h j) = false) (fun j => []) (fun j => [(22, AV.int j)]) (fun j => h.length - j) (0) ?_ (F5 A5) ?_
 ·exact ⟨D6 _, rfl⟩
 intro j hinv;refine R5 ?_;refine A2 ?_ ?_
 ·intro h23;have k23 := C6 h23;have hlt : j < h.length := Aw5;obtain ⟨x, hx⟩ := B3 hlt;have hxd := AV4 hg (C3 hx);have hbj := hf.bit j;have hdj := AN4 hx;refine R6 ?_;refine A1 rfl (C7 rfl G2 L3 (A0 rfl) (A0 rfl) hx qz3) ?_;refine R2 ?_;intro b8;refine R15 ?_;refine O6 rfl (P8 rfl rfl rfl) (fun hc => A9 rfl Tryz.call61 rfl (BF2 o (j : Int)) (A3 (A8 rfl hc) (A3 (A8 rfl hc) B2))) ?_;refine R6 ?_;refine O6 rfl (P8 rfl rfl rfl) (fun hc => C7 rfl G2 L3 (A8 rfl hc) (A8 rfl hc) hd qz6) ?_;refine R1 ?_;refine O6 rfl (P8 rfl rfl rfl) (fun hc => A9 rfl Tryz.call65 rfl (Av8 x d (Av7 hxd).2) (A3 (A8 rfl hc) (A3 (A8 rfl hc) B2))) ?_;refine R2 ?_;refine A2 ?_ ?_
  ·intro h47;have h47b : x.Yes = true ∧ (o.any fun y => (j : Int) == y) = false ∧ Go.M.AF8 x d = true := (by simp only [F0, l7] at h47; exact ⟨h47.1.1.2, h47.1.2, h47.2⟩);have he : (d.Yes && AA8 h (Z4 o) (i : Int)) = false := (by rw [Bl4, anyA_mem (CX1 hx h47b.1) (by rw [hbj]; exact h47b.2.1) (by rw [hdj, hdi]; exact h47b.2.2)]; simp);rw [he];refine R5 ?_;exact E5 rfl (A7 rfl B7)
  intro h47;have hnx : BI2 h (Z4 o) (i : Int) (yT h (j + 1)) = false := Cp8 hinv.2 hx hdi hdj hbj hxd h47;refine R5 ?_;refine F7 j (j + 1) ?_ ?_ (Q1 1 A5)
  ·exact ⟨by omega, hnx⟩
  omega
 intro h23;have k23 := C2 h23;have hge : j = h.length := (by have h8 : h.length ≤ j := Aw5; omega);have hall := hinv.2;rw [hge, Bs3] at hall;have he : (d.Yes && AA8 h (Z4 o) (i : Int)) = true := (by rw [Bl4, hbi, hfy.1, hfy.2, hall]; rfl);rw [he];refine R6 ?_;exact E5 rfl (A7 rfl B7)
end Go.PQ
namespace Go.PQ
open Go.Proofs
open Go Go.AV Go.M
attribute [local irreducible] OpW OpA OpS AWP J3 K8 K0 OpE J6 H5 J9 Le Ev F8 L6 Z8 Int.tmod Int.tdiv IntKind.wrap Q7
theorem CK4 (h : List B4) (hl : h.length ≤ 10) (hg : X7 h = true) (hd : r4 h) : ∀ (m : Nat) (o : List Int) (rows : List A4), AL6 h (Z4 o) = m → AI4 h o → Af4 rows → F6 23 [AV.list 8 (h.map B4.cs), ints o, AV.list 3 (rows.map A4.cs)] (AV.tup [ints (resF o (X4 h m (Z4 o) rows)).1, AV.bool (resF o (X4 h m (Z4 o) rows)).2]) := by
 intro m;induction m using Nat.strongRecOn
 rename_i m ih;intro o rows hm hf hrk;have hfl := hf.left;have hyl := Bx2 h;refine B8 Tryz.func23 rfl Tryz.ntmps23 rfl ?_;refine R2 ?_;refine A1 rfl (D8 rfl (O2 (sz := 1))) ?_;refine R8 ?_;refine A1 rfl (A9 rfl Tryz.call29 rfl (An4 h qz8) L2) ?_;refine R2 ?_;refine A2 ?_ ?_
 ·intro h16;have k16 := K6 h16;(try simp only [A6] at k16);have hm0 : m = 0 := (by simp only [A6] at h16; have h9 := eq_of_beq h16; omega);subst hm0;rw [show resF o (X4 h 0 (Z4 o) rows) = (o, true) from (by rw [Bs2]; exact D7 (fun z => (z, true)) (S1 o))];refine R7 ?_;exact X5 rfl D5 (H7 (A7 rfl Bv3) (H7 (A7 rfl Bv3) l9))
 intro h16;have k16 := J4 h16;(try simp only [A6] at k16);have hne : o.length < (I1 h).length := (by simp only [A6] at h16; have h9 := J4 h16; omega);obtain ⟨k, rfl⟩ : ∃ k, m = k + 1 := ⟨m - 1, by omega⟩;refine R9 ?_;refine E9 [(0, _), (1, _), (2, _), (19, _)] _ (fun (i : Nat) => i ≤ h.length ∧ (yT h i).findSome? (AY0 h k (Z4 o) rows) = none) (fun i => []) (fun i => [(20, AV.int i)]) (fun i => h.length - i) (0) ?_ (F5 A5) ?_
 ·exact ⟨D6 _, rfl⟩
 intro i hinv;refine R5 ?_;refine A2 ?_ ?_
 ·intro h21;have k21 := C6 h21;have hlt : i < h.length := (by simpa using h21);obtain ⟨d, hdx⟩ := B3 hlt;have hds := hd.2 d (C3 hdx);have hdw := AY8 (AV4 hg (C3 hdx));have hdk := hd.1 d (C3 hdx);have hput := Au5 hrk hdw.2.1 hdk;have hwl : d.Writes.length ≤ 1000 := BR1 hdw.1;refine R14 ?_;refine A1 rfl (A9 rfl Tryz.call44 rfl (BK7 h o i d hdx qz8 hg hf) AD6) ?_;refine R5 ?_;refine W9 rfl (fun hc => C7 rfl G2 L3 (A8 rfl hc) (A8 rfl hc) hdx qz6) ?_;refine R1 ?_;refine W9 rfl (fun hc => A9 rfl Tryz.call35 rfl (BB8 rows d qz8) (A3 (A8 rfl hc) (A3 (A8 rfl hc) B2))) ?_;refine R3 ?_;refine A2 ?_ ?_
  ·intro h36;refine R5 ?_;refine F7 i (i + 1) ?_ ?_ (F5 A5)
   ·exact ⟨by omega, Cy1 hdx h36 hinv.2⟩
   omega
  intro h36;have hon := stepF_on (k := k) hdx h36;have hbt := (BB3 hon.2.1).1;have hf2 := hf.snoc hdx hon.1 (by rw [← hf.bit i]; exact hbt);have hadd := Aq5 (CX1 hdx hon.1) hbt;have hrec := ih k qz8 (o ++ [(i : Int)]) (a7 rows d.Writes) (by rw [BE7]; omega) hf2 hput.1;rw [BE7, show ints (o ++ [(i : Int)]) = AV.list 1 ((o.map fun x => [AV.int x]) ++ [[AV.int (i : Int)]]) from D7 (AV.list 1) V1] at hrec;refine R6 ?_;refine A1 rfl (C7 rfl G2 L3 (A0 rfl) (A0 rfl) hdx qz3) ?_;refine R2 ?_;refine A1 rfl (A9 rfl Tryz.call36 rfl (Aw1 rows d.Writes hrk hwl) E4) ?_;refine R6 ?_;refine A1 rfl (A9 rfl Tryz.call37 rfl (BH1 (a7 rows d.Writes) qz110) (A3 (A0 rfl) B2)) ?_;refine R2 ?_;refine A2 ?_ ?_
  ·intro h46;exfalso; rw [l5_ok9 hput.1 hput.2] at h46; cases h46
  intro h46;refine R5 ?_;refine E6 [] rfl rfl rfl rfl Tryz.call45 rfl (AN3 o qz8) L2 rfl ?_;intro x50 ok50;refine R2 ?_;refine H0 (by' := 8) 0 rfl rfl rfl rfl C9 Tryz.type3 rfl rfl rfl rfl rfl rfl (A0 rfl) (A0 rfl) rfl qz3 ?_;intro v53_1;refine Aa4 (z8 [0] 53 rfl rfl (M1 (C3 (i := 0) rfl) G6) Ak5) ?_;refine R1 ?_;refine A1 rfl (A9 rfl Tryz.call23 rfl (hrec) AD6) ?_;refine R10 ?_;refine A2 ?_ ?_
  ·intro h58;obtain ⟨r, hr⟩ : ∃ r, X4 h k (AA9 (Z4 o) (i : Int)) (a7 rows d.Writes) = some r := (by cases hq : X4 h k (AA9 (Z4 o) (i : Int)) (a7 rows d.Writes) with | none => rw [hq] at h58; cases h58 | some r => exact ⟨r, rfl⟩);rw [show X4 h (k + 1) (Z4 o) rows = some ((i : Int) :: r) from found_at hdx hon.1 hinv.2 (by rw [hon.2.2, hr]; rfl), hr];refine R7 ?_;exact X5 rfl D5 (H7 (A7 rfl Bv3) (H7 (A7 rfl Bv3) l9))
  intro h58;have h58n : X4 h k (AA9 (Z4 o) (i : Int)) (a7 rows d.Writes) = none := (by cases hq : X4 h k (AA9 (Z4 o) (i : Int)) (a7 rows d.Writes) with | none => rfl | some r => rw [hq] at h58; cases h58);refine R5 ?_;refine F7 i (i + 1) ?_ ?_ (F5 A5)
  ·exact ⟨by omega, by rw [BK6 hdx hon.1, Bl5, hinv.2, hon.2.2, h58n]; rfl⟩
  omega
 intro h21;have k21 := C2 h21;have hge : i = h.length := (by have h8 : h.length ≤ i := (by simpa using h21); omega);have hfn : X4 h (k + 1) (Z4 o) rows = none := Cy2 (hge ▸ hinv.2);rw [hfn];refine R3 ?_;refine A1 rfl (D8 rfl (O2 (sz := 1))) ?_;refine R3 ?_;exact X5 rfl D5 (H7 (A7 rfl Bv3) (H7 (A7 rfl Bv3) l9))
theorem Bs4 (h : List B4) (hl : h.length ≤ 10) (hd : r4 h) : F6 7 [AV.list 8 (h.map B4.cs)] (AV.tup [ints (AH2 h).1, AV.bool (AH2 h).2.1, AV.bool (AH2 h).2.2]) := by
 refine B8 Tryz.func7 rfl Tryz.ntmps7 rfl ?_;refine R2 ?_;refine A1 rfl (D8 rfl (O2 (sz := 1))) ?_;refine R7 ?_;refine A1 rfl (A9 rfl Tryz.call22 rfl (An2 h (fun d hdm => L4 (hd.2 d hdm) D5)) L2) ?_;refine R2 ?_;refine A2 ?_ ?_
 ·intro h9;have he : AH2 h = ([], false, false) := (by unfold AH2; rw [D4 Al4]);rw [he];refine R2 ?_;refine A1 rfl (D8 rfl (O2 (sz := 1))) ?_;refine R4 ?_;exact X5 rfl D5 AJ1
 intro h9;have hg : X7 h = true := Al4;have he : AH2 h = (Bz9 (X4 h (I1 h).length 0 []), (X4 h (I1 h).length 0 []).isSome, true) := D1 hg;rw [he];have hfd := CK4 h hl hg hd (I1 h).length [] [] (Ak7 h) (CH0 h) Au6;rw [show Z4 [] = 0 from rfl, Ci4.1, Ci4.2] at hfd;refine R4 ?_;refine A1 rfl (A9 rfl Tryz.call23 rfl (hfd) (A3 (A0 rfl) (A3 O2 (A3 O2 B2)))) ?_;refine R15 ?_;exact X5 rfl D5 AJ1
theorem CK5 (h : List B4) (o : List Int) (ho : ∀ n ∈ o, 0 ≤ n ∧ n < (h.length : Int)) (hg : X7 h = true) : F6 38 [AV.list 8 (h.map B4.cs), ints o] (AV.bool (AL0 h o)) := by
 refine B8 Tryz.func38 rfl Tryz.ntmps38 rfl ?_;refine W4 (t := 1) rfl fun hol => ?_;try simp only [A6] at hol
 refine R12 ?_;refine E9 [(0, _), (1, _), (9, _), (10, _)] _ (fun (i : Nat) => i ≤ o.length ∧ AL0 h o = AL0 h (o.drop i)) (fun i => []) (fun i => [(11, AV.int i)]) (fun i => o.length - i) (0) ?_ (I6 B7 A5) ?_
 ·exact ⟨D6 _, rfl⟩
 intro i hinv;refine R5 ?_;refine A2 ?_ ?_
 ·intro h12;have k12 := C6 h12;have hlt : i < o.length := (by simpa using h12);obtain ⟨x, hx⟩ := B3 hlt;have hi0 := hinv.2;have hxr := ho x (C3 hx);have hdl : (o.drop (i + 1)).length ≤ o.length := (by rw [w4]; omega);refine R6 ?_;refine A1 rfl (C7 rfl C9 D0 (A0 rfl) (A0 rfl) hx qz3) ?_;refine R9 ?_;refine A1 rfl (Ak2 rfl C9 D0 (A0 rfl) (A0 rfl) qz3 qz3) ?_;refine R4 ?_;refine E9 [(0, _), (1, _), (5, _), (6, _), (9, _), (10, _), (11, _), (12, _), (13, _), (14, _), (15, _), (16, _), (17, _), (18, _), (19, _), (20, _)] _ (fun (j : Nat) => j ≤ (o.drop (i + 1)).length ∧ ((o.drop (i + 1)).all fun m => !Go.M.AF8 (G7 h m) (G7 h x)) = (((o.drop (i + 1)).drop j).all fun m => !Go.M.AF8 (G7 h m) (G7 h x))) (fun j => []) (fun j => [(21, AV.int j)]) (fun j => (o.drop (i + 1)).length - j) (0) ?_ (I6 B7 A5) ?_
  ·exact ⟨D6 _, rfl⟩
  intro j hinv;refine R5 ?_;refine A2 ?_ ?_
  ·intro h22;have k22 := C6 h22;have hlt1 : j < (o.drop (i + 1)).length := (Int.ofNat_lt.1 k22);obtain ⟨z, hz⟩ := B3 hlt1;have hzr := ho z (List.mem_of_mem_drop (C3 hz));have hzd := AV4 hg (An0 hzr).1;refine R5 ?_;refine A1 rfl (C7 rfl C9 D0 (A0 rfl) (A0 rfl) hz qz3) ?_;refine R7 ?_;refine C1 rfl rfl (C7 rfl G2 L3 (A0 rfl) (A0 rfl) (AA1 hzr) qz8) ?_;refine R3 ?_;refine C1 rfl rfl (C7 rfl G2 L3 (A0 rfl) (A0 rfl) (AA1 hxr) qz8) ?_;refine R1 ?_;refine C1 rfl rfl (A9 rfl Tryz.call65 rfl (Av8 (G7 h z) (G7 h x) (Av7 hzd).2) E4) ?_;refine R1 ?_;refine A2 ?_ ?_
   ·intro h33;have he : AL0 h o = false := (by rw [hi0, As2 hx, hinv.2, Au8 hz, h33]; rfl);rw [he];refine R5 ?_;exact E5 rfl (A7 rfl CL4)
   intro h33;refine R5 ?_;refine F7 j (j + 1) ?_ ?_ (I6 B7 A5)
   ·exact ⟨by omega, by rw [hinv.2, Au8 hz, h33]; rfl⟩
   omega
  intro h22;have k22 := C2 h22;have hge1 : (o.drop (i + 1)).length ≤ j := (Nat.le_of_not_lt fun h9 => k22 (Int.ofNat_lt.2 h9));have hj3 : ((o.drop (i + 1)).all fun m => !Go.M.AF8 (G7 h m) (G7 h x)) = true := (by rw [hinv.2, l6 hge1]; rfl);refine R5 ?_;refine F7 i (i + 1) ?_ ?_ (I6 B7 A5)
  ·exact ⟨by omega, by rw [hi0, As2 hx, hj3, Bool.true_and]⟩
  omega
 intro h12;have k12 := C2 h12;have hge : o.length ≤ i := (by simpa using h12);have hfin := hinv.2;rw [Bq5 hge] at hfin;refine R6 ?_;exact E5 rfl (A7 rfl CL4)
theorem BF3 (h : List B4) (o : List Int) (hs : ∀ d ∈ h, d.size ≤ 1048576) (hl : h.length ≤ 4611686018427387904) : F6 9 [AV.list 8 (h.map B4.cs), ints o] (AV.tup [AV.bool (AV0 h o).1, AV.bool (AV0 h o).2]) := by
 refine B8 Tryz.func9 rfl Tryz.ntmps9 rfl ?_;refine R10 ?_;refine A1 rfl (A9 rfl Tryz.call24 rfl (BK2 h o hs hl) E4) ?_;refine R2 ?_;refine A2 ?_ ?_
 ·intro h9;have he : AV0 h o = (false, false) := (by unfold AV0; rw [D4 Al4]);rw [he];refine R6 ?_;exact X5 rfl D5 AQ4
 intro h9;have hor : AD5 h o = true := Al4;have ho := (Ag3.1 hor).1;have he : AV0 h o = (AL0 h o, true) := D1 hor;rw [he];refine R5 ?_;refine A1 rfl (A9 rfl Tryz.call25 rfl (Co6 h o ho) E4) ?_;refine R4 ?_;exact X5 rfl D5 AQ4
theorem Bl6 (h : List B4) (o : List Int) (hs : ∀ d ∈ h, d.size ≤ 1048576) (hl : h.length ≤ 4611686018427387904) : F6 16 [AV.list 8 (h.map B4.cs), ints o] (AV.tup [AV.bool (AV0 h o).1, AV.bool (AV0 h o).2]) := by
 refine B8 Tryz.func16 rfl Tryz.ntmps16 rfl ?_;refine R10 ?_;refine A1 rfl (A9 rfl Tryz.call34 rfl (BT0 h o hs hl) E4) ?_;refine R2 ?_;refine A2 ?_ ?_
 ·intro h9;have he : AV0 h o = (false, false) := (by unfold AV0; rw [D4 Al4]);rw [he];refine R6 ?_;exact X5 rfl D5 AQ4
 intro h9;have hor : AD5 h o = true := Al4;have ho := Ag3.1 hor;have he : AV0 h o = (AL0 h o, true) := D1 hor;rw [he];refine R5 ?_;refine A1 rfl (A9 rfl Tryz.call38 rfl (CK5 h o ho.1 ho.2.2) E4) ?_;refine R4 ?_;exact X5 rfl D5 AQ4
theorem Bs5 (h : List B4) (o : List Int) (hl : h.length ≤ 10) (hd : r4 h) : F6 15 [AV.list 8 (h.map B4.cs), ints o] (AV.tup [AV.list 3 ((AJ7 h o).1.map A4.cs), AV.bool (AJ7 h o).2.1, AV.bool (AJ7 h o).2.2]) := by
 refine B8 Tryz.func15 rfl Tryz.ntmps15 rfl ?_;refine W4 (t := 1) rfl fun hol => ?_;try simp only [A6] at hol
 refine R2 ?_;refine A1 rfl (D8 rfl (O2 (sz := 3))) ?_;refine R8 ?_;refine A1 rfl (A9 rfl Tryz.call34 rfl (BT0 h o (fun d hdm => L4 (hd.2 d hdm) D5) qz8) E4) ?_;refine R2 ?_;refine A2 ?_ ?_
 ·intro h14;have he : AJ7 h o = ([], false, false) := (by unfold AJ7; rw [D4 (by simpa using h14)]);rw [he];refine R2 ?_;refine A1 rfl (D8 rfl (O2 (sz := 3))) ?_;refine R4 ?_;exact X5 rfl D5 AJ1
 intro h14;have hor : AD5 h o = true := (by simpa using h14);obtain ⟨o1, o2, o3⟩ := Ag3.1 hor;refine R3 ?_;refine A1 rfl (D8 rfl (O2 (sz := 3))) ?_;refine R13 ?_;refine V5 [(0, _), (15, _), (16, _)] _ (fun (i : Nat) (rows : List A4) (r : Bool) => i ≤ o.length ∧ AT2 h o [] true = AT2 h (o.drop i) rows r ∧ Af4 rows) (fun i rows r => []) (fun i rows r => [(7, AV.list 3 (rows.map A4.cs)), (8, AV.bool r), (17, AV.int i)]) (fun i rows r => o.length - i) (0) ([]) (true) ?_ (I6 B7 A5) ?_
 ·exact ⟨D6 _, rfl, Au6⟩
 intro i rows r hinv;refine R5 ?_;refine A2 ?_ ?_
 ·intro h18;have k18 := C6 h18;have hlt : i < o.length := Ba8;obtain ⟨x, hx⟩ := B3 hlt;have hxr := o1 x (C3 hx);have hdm := An0 hxr;have hds := hd.2 _ hdm.1;have hdw := AY8 (AV4 o3 hdm.1);have hput := Au5 hinv.2.2 hdw.2.1 (hd.1 _ hdm.1);have hwl : (G7 h x).Writes.length ≤ 1000 := BR1 hdw.1;refine R5 ?_;refine A1 rfl (C7 rfl C9 D0 (A0 rfl) (A0 rfl) hx qz3) ?_;refine R8 ?_;refine A1 rfl (C7 rfl G2 L3 (A0 rfl) (A0 rfl) (AA1 hxr) qz8) ?_;refine R4 ?_;refine A2 ?_ ?_
  ·intro h26;have hno : (G7 h x).Yes = false := (by simpa using h26);refine R5 ?_;refine P2 i rows r (i + 1) (rows) (r) ?_ ?_ (I6 B7 A5)
   ·exact ⟨by omega, by rw [hinv.2.1, AW9 hx, D4 (by rw [hno]; decide)], hinv.2.2⟩
   omega
  intro h26;have hyes : (G7 h x).Yes = true := (by simpa using h26);refine R8 ?_;refine N4 rfl (fun hc => C7 rfl G2 L3 (A8 rfl hc) (A8 rfl hc) (AA1 hxr) qz8) ?_;refine R1 ?_;refine N4 rfl (fun hc => A9 rfl Tryz.call35 rfl (BB8 rows (G7 h x) qz8) (A3 (A8 rfl hc) (A3 (A8 rfl hc) B2))) ?_;refine R8 ?_;refine A1 rfl (C7 rfl G2 L3 (A0 rfl) (A0 rfl) (AA1 hxr) qz8) ?_;refine R2 ?_;refine A1 rfl (A9 rfl Tryz.call36 rfl (Aw1 rows (G7 h x).Writes hinv.2.2 hwl) E4) ?_;refine R5 ?_;refine A1 rfl (A9 rfl Tryz.call37 rfl (BH1 (a7 rows (G7 h x).Writes) (by have h9 := y6 (f := A4.size) (c := 100) (l := a7 rows (G7 h x).Writes) fun w hw => CH1 hput.1 hw; have h8 : (a7 rows (G7 h x).Writes).length * (100 + 1) ≤ 8 * 101 := AE3 _ hput.2; omega)) (A3 (A0 rfl) B2)) ?_;refine R2 ?_;refine A2 ?_ ?_
  ·intro h45;exfalso; rw [l5_ok9 hput.1 hput.2] at h45; cases h45
  intro h45;refine R5 ?_;refine P2 i rows r (i + 1) (a7 rows (G7 h x).Writes) ((r && j3 rows (G7 h x))) ?_ ?_ (I6 B7 A5)
  ·exact ⟨by omega, by rw [hinv.2.1, AW9 hx, D1 hyes, D1 qz8], hput.1⟩
  omega
 intro h18;have k18 := C2 h18;have hge : o.length ≤ i := Ba8;have hfin : AJ7 h o = (rows, r, true) := BQ6 hor CL1;rw [hfin];refine R10 ?_;exact X5 rfl D5 AJ1
end Go.PQ
namespace Go.PQ
open Go.Proofs
open Go Go.AV Go.M
attribute [local irreducible] OpW OpA OpS AWP J3 K8 K0 OpE J6 H5 J9 Le Ev F8 L6 Z8 Int.tmod Int.tdiv IntKind.wrap Q7
theorem By8 (h : List B4) (hl : h.length ≤ 10) (hg : X7 h = true) (h7 : (I1 h).length ≤ 7) : ∀ (m : Nat) (o : List Int), AL6 h (Z4 o) = m → AI4 h o → F6 30 [AV.list 8 (h.map B4.cs), ints o] (AV.int ((Go.M.Y8 h m (Z4 o) : Nat) : Int)) := by
 intro m;induction m using Nat.strongRecOn
 rename_i m ih;intro o hm hf;have hfl := hf.left;have hcs := BZ3 (s := Z4 o) h7 (show m ≤ 7 by omega);refine B8 Tryz.func30 rfl Tryz.ntmps30 rfl ?_;refine R10 ?_;refine A1 rfl (A9 rfl Tryz.call29 rfl (An4 h qz8) L2) ?_;refine R2 ?_;refine A2 ?_ ?_
 ·intro h11;have k11 := K6 h11;(try simp only [A6] at k11);have hm0 : m = 0 := (by simp only [A6] at h11; have h9 := eq_of_beq h11; omega);subst hm0;rw [show Go.M.Y8 h 0 (Z4 o) = 1 from (by unfold Go.M.Y8; rfl)];refine R5 ?_;exact E5 rfl (A7 rfl B7)
 intro h11;have k11 := J4 h11;(try simp only [A6] at k11);have hne : o.length < (I1 h).length := (by simp only [A6] at h11; have h9 := J4 h11; omega);obtain ⟨k, rfl⟩ : ∃ k, m = k + 1 := ⟨m - 1, by omega⟩;refine R13 ?_;refine K3 [(0, _), (1, _), (4, _), (13, _)] _ (fun (i : Nat) (c : Nat) => i ≤ h.length ∧ c = cT h k (Z4 o) i) (fun i c => []) (fun i c => [(5, AV.int (c : Int)), (14, AV.int i)]) (fun i c => h.length - i) (0) (0) ?_ (F5 A5) ?_
 ·exact ⟨D6 _, rfl⟩
 intro i c hinv;refine R5 ?_;refine A2 ?_ ?_
 ·intro h15;have k15 := C6 h15;have hlt : i < h.length := Ba6;obtain ⟨d, hdx⟩ := B3 hlt;have hcl := cT_le (h := h) (k := k) (s := Z4 o) hinv.1;refine R13 ?_;refine A1 rfl (A9 rfl Tryz.call44 rfl (BK7 h o i d hdx qz8 hg hf) AD6) ?_;refine R1 ?_;refine A2 ?_ ?_
  ·intro h20;have h20b : d.Yes = true ∧ AA8 h (Z4 o) (i : Int) = true := (by rw [F0] at h20; exact h20);have hbt := (BB3 h20b.2).1;have hf2 := hf.snoc hdx h20b.1 (by rw [← hf.bit i]; exact hbt);have hadd := Aq5 (CX1 hdx h20b.1) hbt;have hcs2 := BZ3 (s := AA9 (Z4 o) (i : Int)) h7 (show k ≤ 7 by omega);have hrec := ih k qz8 (o ++ [(i : Int)]) (by rw [BE7]; omega) hf2;rw [BE7, show ints (o ++ [(i : Int)]) = AV.list 1 ((o.map fun x => [AV.int x]) ++ [[AV.int (i : Int)]]) from D7 (AV.list 1) V1] at hrec;refine R4 ?_;refine E6 [] rfl rfl rfl rfl Tryz.call45 rfl (AN3 o qz8) L2 rfl ?_;intro x24 ok24;refine R2 ?_;refine H0 (by' := 8) 0 rfl rfl rfl rfl C9 Tryz.type3 rfl rfl rfl rfl rfl rfl (A0 rfl) (A0 rfl) rfl qz3 ?_;intro v27_1;refine Aa4 (z8 [0] 27 rfl rfl (M1 (C3 (i := 0) rfl) G6) Ak5) ?_;refine A1 rfl (A9 rfl Tryz.call30 rfl (hrec) E4) ?_;refine R7 ?_;refine G8 i c (i + 1) (c + Go.M.Y8 h k (AA9 (Z4 o) (i : Int))) ?_ ?_ (F5 A5)
   ·exact ⟨by omega, by rw [cT_yes hdx h20, hinv.2]⟩
   omega
  intro h20;refine R5 ?_;refine G8 i c (i + 1) (c) ?_ ?_ (F5 A5)
  ·exact ⟨by omega, by rw [cT_no hdx h20, hinv.2]⟩
  omega
 intro h15;have k15 := C2 h15;have hge : i = h.length := (by have h8 : h.length ≤ i := Ba6; omega);have hcf : c = Go.M.Y8 h (k + 1) (Z4 o) := (by rw [hinv.2, hge, cT_all]);rw [hcf];refine R7 ?_;exact E5 rfl (A7 rfl B7)
theorem Be9 (h : List B4) (hl : h.length ≤ 10) (hz : ∀ d ∈ h, d.size ≤ 5000) : F6 13 [AV.list 8 (h.map B4.cs)] (AV.tup [AV.int ((AO9 h).1 : Int), AV.bool (AO9 h).2]) := by
 refine B8 Tryz.func13 rfl Tryz.ntmps13 rfl ?_;refine R9 ?_;refine A1 rfl (A9 rfl Tryz.call22 rfl (An2 h (fun d hdm => L4 (hz d hdm) D5)) L2) ?_;refine R3 ?_;refine W9 rfl (fun hc => A9 rfl Tryz.call29 rfl (An4 h qz8) (A3 (A8 rfl hc) B2)) ?_;refine R3 ?_;refine A2 ?_ ?_
 ·intro h11;have he : AO9 h = (0, false) := (by unfold AO9; rw [D4 (by intro h9; rw [F0, I4] at h9; rw [h9.1] at h11; simp at h11; omega)]);rw [he];refine R6 ?_;exact X5 rfl D5 AQ4
 intro h11;have h11b : X7 h = true ∧ (I1 h).length ≤ 7 := (by revert h11; cases X7 h <;> simp <;> omega);have he : AO9 h = (Go.M.Y8 h (I1 h).length 0, true) := (by unfold AO9; rw [D1 (by rw [h11b.1, AB1 h11b.2]; rfl)]);rw [he];have hct := By8 h hl h11b.1 h11b.2 (I1 h).length [] (Ak7 h) (CH0 h);refine R4 ?_;refine A1 rfl (A9 rfl Tryz.call30 rfl (hct) (A3 (A0 rfl) (A3 O2 B2))) ?_;refine R4 ?_;exact X5 rfl D5 AQ4
theorem Ci5 {i : Nat} (h : i ≤ 7) : 7 ^ i ≤ 823543 := L4 (Nat.pow_le_pow_right D5 h) D5
theorem BB9 (h : List B4) (hl : h.length ≤ 10) (hz : ∀ d ∈ h, d.size ≤ 5000) : F6 11 [AV.list 8 (h.map B4.cs)] (AV.tup [AV.int ((AO9 h).1 : Int), AV.bool (AO9 h).2]) := by
 refine B8 Tryz.func11 rfl Tryz.ntmps11 rfl ?_;refine R8 ?_;refine A1 rfl (A9 rfl Tryz.call20 rfl (BK3 h qz8) L2) ?_;refine R6 ?_;refine A1 rfl (A9 rfl Tryz.call19 rfl (Aj2 h (fun d hdm => L4 (hz d hdm) D5)) L2) ?_;refine R7 ?_;refine A2 ?_ ?_
 ·intro h23;have he : AO9 h = (0, false) := (by unfold AO9; rw [D4 (by intro h9; rw [F0, I4] at h9; rw [h9.1] at h23; simp at h23; omega)]);rw [he];refine R6 ?_;exact X5 rfl D5 AQ4
 intro h23;have h23b : X7 h = true ∧ (I1 h).length ≤ 7 := (by revert h23; cases X7 h <;> simp <;> omega);have he : AO9 h = (Go.M.Y8 h (I1 h).length 0, true) := (by unfold AO9; rw [D1 (by rw [h23b.1, AB1 h23b.2]; rfl)]);rw [he];obtain ⟨hg, h7⟩ := h23b;obtain ⟨r0, hf0, hs0, hm0⟩ := Cy3 h;obtain ⟨K, hK⟩ : ∃ K, K = (I1 h).length := ⟨_, rfl⟩;rw [← hK] at hm0;obtain ⟨c0, hc0⟩ : ∃ c, c = Go.M.Y8 h K 0 := ⟨_, rfl⟩;rw [← hK, ← hc0];rw [← hc0] at hm0;refine R3 ?_;refine Bk6 rfl rfl rfl rfl ?_;intro m24;refine BX1 (AO6 h K c0 (7 ^ 0)) 0 rfl (.inr rfl) rfl Tryz.underlying55 i6 (.inr ⟨_, rfl⟩) (A0 rfl) I7 I7 rfl hf0 hs0 hm0 ?_;refine R11 ?_;refine AWP.le (B9 [0] rfl) ?_;refine V5 [(0, _), (2, _), (3, _), (4, _), (27, _)] _ (fun (i : Nat) (k : Nat) (mc : Nat) => i + k = K) (fun i k mc => [.obj mc (AO6 h k c0 (7 ^ i))]) (fun i k mc => [(5, AV.is (.map (some mc))), (28, AV.int i)]) (fun i k mc => K - i) (0) (K) (m24) ?_ (I6 B7 A5) ?_
 ·exact Nat.zero_add K
 intro i k mc hinv;refine R5 ?_;refine A2 ?_ ?_
 ·intro h29;have k29 := C6 h29;obtain ⟨k', hk'⟩ : ∃ k', k = k' + 1 := ⟨k - 1, by omega⟩;rw [hk'];refine R5 ?_;refine Bk6 rfl rfl rfl rfl ?_;intro m30;refine R4 ?_;refine BJ6 1 rfl fun x9 hx9 => ?_;obtain ⟨es, clock, rfl, hA⟩ := hx9;refine AWP.le (Au7 0 (AO6 h k' (AF9 (cW h (k' + 1)) es.toList #[]) (7 * AF9 eV es.toList #[])) rfl fun x e => by rw [BQ0, BQ0, e]; exact cntM_nil h k') ?_;refine R2 ?_;refine CD2 1 rfl rfl rfl rfl Tryz.underlying55 (A0 rfl) rfl ?_;intro it32;refine R2 ?_;refine AWP.le (B9 [0, 0] rfl) ?_;refine E9 [(0, _), (2, _), (3, _), (4, _), (5, _), (6, _), (27, _), (28, _), (29, _), (30, _), (31, _), (32, _)] _ (fun (seen : Array Nat) => True) (fun seen => [.obj it32 (· = .mapIter (some mc) clock seen clock), .obj m30 (AO6 h k' (AF9 (cW h (k' + 1)) es.toList seen) (7 * AF9 eV es.toList seen))]) (fun seen => []) (fun seen => (leftOf es seen).size) (#[]) ?_ (I6 B7 A5) ?_
  ·exact trivial
  intro seen hinv;refine R2 ?_;refine CS0 0 2 rfl rfl rfl rfl (A0 rfl) rfl rfl hA.wf.born (L5 _) ?_;intro c33 e33 hc33 hn33;refine A1 rfl (w_nxt rfl (A0 rfl)) ?_;refine R2 ?_;refine A2 ?_ ?_
  ·intro h34;subst h34;have hel := hc33 rfl;have hml := mem_left hel;have hce := hA.ent e33 hml.1;have hve := L4 (CS9 (f := eV) hml.1) hA.le;have hsv := L4 (CT0 (f := eV) (es := es.toList) (seen := seen)) hA.le;have hi9 : 7 ^ i ≤ 823543 := Ci5 qz8;refine R4 ?_;refine A1 rfl (Cg9 0 2 rfl (A0 rfl) rfl rfl hml.1 hA.wf.nd) ?_;refine R6 ?_;rw [show AV.is e33.key = AV.int ((eS e33 : Nat) : Int) from (by rw [hce.key]; rfl), show AV.is e33.val = AV.int ((eV e33 : Nat) : Int) from (by rw [hce.val]; rfl)];refine AWP.le (Au7 1 (AO6 h k' (AF9 (cW h (k' + 1)) es.toList seen + Ay8 h k' (eS e33) (eV e33) 0) (7 * AF9 eV es.toList seen + eV e33 * 0)) rfl fun x hx => hx) ?_;refine R6 ?_;refine AWP.le (B9 [1] rfl) ?_;refine E9 [(0, _), (2, _), (3, _), (4, _), (5, _), (6, _), (7, _), (8, _), (27, _), (28, _), (29, _), (30, _), (31, _), (32, _), (33, _), (34, _), (35, _), (36, _), (37, _), (38, _), (39, _)] _ (fun (j : Nat) => j ≤ (I1 h).length) (fun j => [.obj m30 (AO6 h k' (AF9 (cW h (k' + 1)) es.toList seen + Ay8 h k' (eS e33) (eV e33) j) (7 * AF9 eV es.toList seen + eV e33 * j))]) (fun j => [(40, AV.int j)]) (fun j => (I1 h).length - j) (0) ?_ (I6 B7 A5) ?_
   ·exact D6 _
   intro j hinv;refine R5 ?_;refine A2 ?_ ?_
   ·intro h41;have k41 := C6 h41;have hlt2 : j < (I1 h).length := (by simpa using h41);obtain ⟨n, hn⟩ := B3 hlt2;have hny := C3 hn;have hin := Go.M.AR1 hny;have hvj : eV e33 * j ≤ eV e33 * 7 := Nat.mul_le_mul_left _ qz8;refine R5 ?_;refine A1 rfl (C7 rfl C9 D0 (A0 rfl) (A0 rfl) hn qz3) ?_;refine R9 ?_;refine A1 rfl (A9 rfl Tryz.call28 rfl (BZ5 h (eS e33) n hce.lt hny hl) BI4) ?_;refine R1 ?_;refine A2 ?_ ?_
    ·intro h48;have hbit := (BB3 h48).1;have hadd := Aq5 hny hbit;have hcl := hce.left;refine BJ6 0 rfl fun x9 hx9 => ?_;obtain ⟨es2, clock2, rfl, hA2⟩ := hx9;obtain ⟨r9, v9, hf9, hu9, hvB9, hs9, hput9⟩ := Ch3 hA2 (t := AA9 (eS e33) n) (CS6 hce.lt qz8) qz8;refine R4 ?_;refine A1 rfl (w_shl1 rfl I7 (A0 rfl) qz8 qz8) ?_;refine A1 rfl (w_orN rfl (A0 rfl) (A0 rfl) (by have h9 := hce.lt; omega) (CG9 qz8)) ?_;refine A1 rfl (w_look 0 rfl Tryz.underlying55 i6 (.inr ⟨_, rfl⟩) Tryz.zeroValue3 (A0 rfl) (A0 rfl) rfl hf9 hu9) ?_;refine R2 ?_;refine BX1 (y := Go.AV.W1 ((v9 + eV e33 : Nat) : Int)) (AO6 h k' (AF9 (cW h (k' + 1)) es.toList seen + Ay8 h k' (eS e33) (eV e33) (j + 1)) (7 * AF9 eV es.toList seen + eV e33 * (j + 1))) 0 rfl (.inl rfl) rfl Tryz.underlying55 i6 (.inr ⟨_, rfl⟩) (A0 rfl) (A0 rfl) (A0 (D7 (fun z => some (AV.int z)) qz8)) rfl hf9 hs9 (AO6.at (hput9 (eV e33)) (by rw [Bp2 hn, D1 h48, Nat.add_assoc]) (by rw [Nat.mul_succ]; omega)) ?_;refine R5 ?_;refine F7 j (j + 1) ?_ ?_ (Le.trans (B9 [0] rfl) (I6 B7 A5))
     ·exact qz8
     omega
    intro h48;refine AWP.le (Au7 0 (AO6 h k' (AF9 (cW h (k' + 1)) es.toList seen + Ay8 h k' (eS e33) (eV e33) (j + 1)) (7 * AF9 eV es.toList seen + eV e33 * (j + 1))) rfl fun x hx => AO6.at hx (by rw [Bp2 hn, D4 (by rw [h48]; decide)]; rfl) (by rw [Nat.mul_succ]; omega)) ?_;refine R5 ?_;refine F7 j (j + 1) ?_ ?_ (Le.trans (B9 [0] rfl) (I6 B7 A5))
    ·exact qz8
    omega
   intro h41;have k41 := C2 h41;have hge2 : (I1 h).length ≤ j := (by simpa using h41);have hvj : eV e33 * j ≤ eV e33 * 7 := Nat.mul_le_mul_left _ qz8;refine AWP.le (Au7 0 (AO6 h k' (AF9 (cW h (k' + 1)) es.toList (seen.push e33.born)) (7 * AF9 eV es.toList (seen.push e33.born))) rfl fun x hx => AO6.at hx (by rw [Ax2 hml.2 hA.wf.nd hml.1, Cu3 hge2]; rfl) (by rw [Ax2 hml.2 hA.wf.nd hml.1]; omega)) ?_;refine R1 ?_;refine F7 (Q := fun _ _ => True) seen (seen.push e33.born) ?_ ?_ (Le.trans (B9 [1, 0] rfl) (I6 B7 A5))
   ·exact trivial
   exact left_shrinks es seen e33 hel
  intro h34;subst h34;have hsz := hn33 rfl;refine AWP.le (Au7 1 (AO6 h k' c0 (7 ^ (i + 1))) rfl fun x hx => AO6.at hx (by rw [BX3 hsz, hA.sum]) (by have h9 := hA.le; rw [BX3 hsz, Nat.pow_succ]; omega)) ?_;refine R9 ?_;refine P2 i k mc (i + 1) (k') (m30) ?_ ?_ (Le.trans (B9 [0, 1, 0] rfl) (E8 2 B7 A5))
  ·exact qz8
  omega
 intro h29;have k29 := C2 h29;have hk0 : k = 0 := qz8;have hi9 : 7 ^ i ≤ 823543 := Ci5 qz8;subst hk0;refine R7 ?_;refine BJ6 0 rfl fun x9 hx9 => ?_;obtain ⟨es, clock, rfl, hA⟩ := hx9;refine R2 ?_;refine CD2 0 rfl rfl rfl rfl Tryz.underlying55 (A0 rfl) rfl ?_;intro it61;refine R2 ?_;refine AWP.le (B9 [0] rfl) ?_;refine K3 [(2, _), (3, _), (61, _)] _ (fun (seen : Array Nat) (c : Nat) => c = AF9 eV es.toList seen) (fun seen c => [.obj it61 (· = .mapIter (some mc) clock seen clock)]) (fun seen c => [(11, AV.int (c : Int))]) (fun seen c => (leftOf es seen).size) (#[]) (0) ?_ (I6 B7 A5) ?_
 ·exact (BQ0 eV es.toList).symm
 intro seen c hinv;refine R2 ?_;refine CS0 0 1 rfl rfl rfl rfl (A0 rfl) rfl rfl hA.wf.born (L5 _) ?_;intro c62 e62 hc62 hn62;refine A1 rfl (w_nxt rfl (A0 rfl)) ?_;refine R2 ?_;refine A2 ?_ ?_
 ·intro h63;subst h63;have hel := hc62 rfl;have hml := mem_left hel;have hce := hA.ent e62 hml.1;have hve := L4 (CS9 (f := eV) hml.1) hA.le;have hsv := L4 (CT0 (f := eV) (es := es.toList) (seen := seen)) hA.le;refine R4 ?_;refine A1 rfl (Cg9 0 1 rfl (A0 rfl) rfl rfl hml.1 hA.wf.nd) ?_;refine R3 ?_;rw [show AV.is e62.val = AV.int ((eV e62 : Nat) : Int) from (by rw [hce.val]; rfl)];refine R6 ?_;refine Ab1 ?_;refine G8 seen c (seen.push e62.born) (c + eV e62) ?_ ?_ (Le.trans (B9 [0] rfl) (I6 B7 A5))
  ·exact (by rw [Ax2 hml.2 hA.wf.nd hml.1, hinv])
  exact left_shrinks es seen e62 hel
 intro h63;subst h63;have hsz := hn62 rfl;have hfin : c = c0 := (by rw [hinv, BX3 hsz, ← cW_zero (h := h), hA.sum]);rw [hfin];refine R8 ?_;exact X5 rfl D5 AQ4
end Go.PQ
namespace Go.PQ
open Go.Proofs
open Go Go.AV Go.M
attribute [local irreducible] OpW OpA OpS AWP J3 K8 K0 OpE J6 H5 J9 Le Ev F8 L6 Z8 Int.tmod Int.tdiv IntKind.wrap Q7
theorem CX3 (b : Nat) (w : E0) (X : WX) (T : List (Value × Value)) (L : List Value) (g t : Int) (gi : C8) (hw : WI w) (h0 : 0 ≤ g) (hx : w.Groups[g.toNat]? = some gi) : M7 201 [AV.ptr b 0, AV.int g, AV.int t] (WB b w X T L) (fun v : E0 × Bool => WI v.1 ∧ WS w v.1) (fun v => WB b v.1 X T L) (fun v => AV.bool v.2) := by
 have hng := hw.n;have hgi := hw.groups gi (C3 hx);have hgl := (F4.1 hx).1;refine C5 Tryz.func201 rfl Tryz.ntmps201 rfl ?_;refine R13 ?_;refine A1 rfl (H6 2 rfl I0 D3 (A0 rfl) rfl (A0 rfl) AZ6 (by first | (simp only [A6]; omega) | (simp at hc ⊢; omega))) ?_;refine A1 rfl (n2 2 rfl (A0 rfl) rfl M3 D3 qz91 D5) ?_;refine A1 rfl (A9 rfl Tryz.call187 rfl (AH7 gi hgi.good) L2) ?_;refine R2 ?_;refine A2 ?_ ?_
 ·intro h22;refine R5 ?_;exact I3 [0, 0, 0, 0, 0, 0, 0] 0 (nwZ w T L) [] ((w, false)) (Bv5) rfl (show List.Perm (nwZ w T L) ((nwZ w T L) ++ []) from B6) B7 K5
 intro h22;have hrd : AO5 gi = true := BL4;have hl := AJ3 hrd;have hgs := AM0 hgi.good hl;have hhl := hgs.hlen;have hhs := Ac2 (W0 gi) t qz8;have hld := Cp9 hgs t;obtain ⟨H, hH⟩ : ∃ H, AM1 (W0 gi).Held t = H := ⟨_, rfl⟩;rw [hH] at hhs hld;obtain ⟨gl, hgx⟩ : ∃ gl : C8, H.1.Lead.toNat < w.Groups.length → w.Groups[H.1.Lead.toNat]? = some gl := ⟨(w.Groups[H.1.Lead.toNat]?).getD gi, fun h9 => by rw [O1 h9]; rfl⟩;refine R5 ?_;refine A1 rfl (n3 [0, 0, 0, 0, 0, 0, 0] 0 (nwZ w T L) ([]) rfl Tryz.call166 rfl rfl (B6) (AV6 b w X T L g gi hx h0 hgi.good hl) E4) ?_;refine R1 ?_;refine A1 rfl (A9 rfl Tryz.call207 rfl (hhs) E4) ?_;refine R4 ?_;intro b7;refine R5 ?_;refine K2 AT4 ?_;refine R22 ?_;refine O6 rfl (j5 rfl rfl rfl) (fun hc => H6 3 rfl I0 D3 (A8 rfl hc) rfl (A8 rfl hc) AZ6 (by first | (simp only [A6]; omega) | (simp at hc ⊢; omega))) ?_;refine O6 rfl (j5 rfl rfl rfl) (fun hc => n2 3 rfl (A8 rfl hc) rfl M3 D3 qz91 D5) ?_;refine O6 rfl (j5 rfl rfl rfl) (fun hc => A9 rfl Tryz.call187 rfl (AH7 gl (hw.groups gl (C3 (hgx (by simp at hc; omega)))).good) (A3 (A8 rfl hc) B2)) ?_;refine R3 ?_;refine A2 ?_ ?_
 ·intro h56;refine R5 ?_;exact I3 [1, 1, 1, 1, 1, 1, 1] 1 (nwZ w T L) [] ((w, false)) (Bv5) rfl (show List.Perm (nwZ w T L) ((nwZ w T L) ++ []) from B6) B7 K5
 intro h56;have hfa : H.2 = true ∧ H.1.Lead.toNat < w.Groups.length ∧ AO5 gl = true := (by simp at h56; exact ⟨h56.1.1, by omega, h56.2⟩);have hxl := hgx hfa.2.1;have hgg := hw.groups gl (C3 hxl);have hll := AJ3 hfa.2.2;have hsl := Ah5 hgg.good hll;have hfl := AM0 hgg.good hll;have hst := hsl.tlen;have hft := hfl.tlen;have hput := Ae0 b w X T L g ⟨2, t, 0, 0, [], [], false⟩ gi hx h0 hgi (show (0 : Nat) ≤ 1000 from by decide) (fun w9 hw9 => by cases hw9);have hput2 := Ae0 b w X T L g ⟨3, t, (AY6 (Y9 gl).Told t).1.Time, 0, [], [], (AY6 (Y9 gl).Told t).1.Yes⟩ gi hx h0 hgi (show (0 : Nat) ≤ 1000 from by decide) (fun w9 hw9 => by cases hw9);have hput3 := Ae0 b w X T L H.1.Lead ⟨2, t, 0, 0, [], [], false⟩ gl hxl hld.1 hgg (show (0 : Nat) ≤ 1000 from by decide) (fun w9 hw9 => by cases hw9);refine R9 ?_;refine A2 ?_ ?_
 ·intro h60;refine R6 ?_;refine J7 [1, 1, 1, 1, 1, 1, 1] 1 7 (nwZ w T L) ([]) (fun zz => nwZ w T L) rfl rfl rfl rfl Tryz.call164 rfl rfl (show List.Perm (nwZ w T L) ((nwZ w T L) ++ ([])) from B6) (hput) (A3 (A0 rfl) (A3 (A0 rfl) (A3 (AQ5 (A0 rfl) Al1) B2))) (fun a => L9) ?_;intro x65 ok65;refine R3 ?_;exact I3 [0, 0, 0, 0, 0, 0, 0] 1 (nwZ w T L) [] ((Y5 w g.toNat x65.1, x65.2)) (Bv5) rfl (show List.Perm (nwZ w T L) ((nwZ w T L) ++ []) from B6) B7 K5
 intro h60;refine R7 ?_;refine A1 rfl (n3 [1, 1, 1, 1, 1, 1, 1] 1 (nwZ w T L) ([]) rfl Tryz.call189 rfl rfl (B6) (Al0 b w X T L H.1.Lead gl hxl hld.1 hgg.good hll) E4) ?_;refine R1 ?_;refine A1 rfl (A9 rfl Tryz.call127 rfl (AK5 (Y9 gl) t qz8) E4) ?_;refine R4 ?_;intro b9;refine R4 ?_;refine K2 AT4 ?_;refine R3 ?_;refine A2 ?_ ?_
 ·intro h75;refine R10 ?_;refine J7 [2, 2, 2, 2, 2, 2, 2] 2 7 (nwZ w T L) ([]) (fun zz => nwZ w T L) rfl rfl rfl rfl Tryz.call164 rfl rfl (show List.Perm (nwZ w T L) ((nwZ w T L) ++ ([])) from B6) (hput2) (A3 (A0 rfl) (A3 (A0 rfl) (A3 (AQ5 (A0 rfl) Al1) B2))) (fun a => L9) ?_;intro x84 ok84;refine R3 ?_;exact I3 [0, 0, 0, 0, 0, 0, 0] 2 (nwZ w T L) [] ((Y5 w g.toNat x84.1, x84.2)) (Bv5) rfl (show List.Perm (nwZ w T L) ((nwZ w T L) ++ []) from B6) B7 K5
 intro h75;refine R7 ?_;refine A1 rfl (n3 [2, 2, 2, 2, 2, 2, 2] 2 (nwZ w T L) ([]) rfl Tryz.call166 rfl rfl (B6) (AV6 b w X T L H.1.Lead gl hxl hld.1 hgg.good hll) E4) ?_;refine R1 ?_;refine A1 rfl (A9 rfl Tryz.call127 rfl (AK5 (W0 gl) t qz8) E4) ?_;refine R4 ?_;intro b11;refine R7 ?_;refine A2 ?_ ?_
 ·intro h94;refine R5 ?_;refine J7 [3, 3, 3, 3, 3, 3, 3] 3 7 (nwZ w T L) ([]) (fun zz => nwZ w T L) rfl rfl rfl rfl Tryz.call170 rfl rfl (show List.Perm (nwZ w T L) ((nwZ w T L) ++ ([])) from B6) (Ad9 b w X T L H.1.Lead gl hxl hld.1 hgg) E4 (fun a => L9) ?_;intro x98 ok98;refine R6 ?_;exact I3 [0, 0, 0, 0, 0, 0, 0] 3 (nwZ w T L) [] ((Y5 w H.1.Lead.toNat x98, true)) (Bv5) rfl (show List.Perm (nwZ w T L) ((nwZ w T L) ++ []) from B6) B7 K5
 intro h94;refine R8 ?_;refine J7 [3, 3, 3, 3, 3, 3, 3] 3 7 (nwZ w T L) ([]) (fun zz => nwZ w T L) rfl rfl rfl rfl Tryz.call164 rfl rfl (show List.Perm (nwZ w T L) ((nwZ w T L) ++ ([])) from B6) (hput3) (A3 (A0 rfl) (A3 (A0 rfl) (A3 (AQ5 (A0 rfl) Al1) B2))) (fun a => L9) ?_;intro x104 ok104;refine R3 ?_;exact I3 [0, 0, 0, 0, 0, 0, 0] 3 (nwZ w T L) [] ((Y5 w H.1.Lead.toNat x104.1, x104.2)) (Bv5) rfl (show List.Perm (nwZ w T L) ((nwZ w T L) ++ []) from B6) B7 K5
theorem Bs6 (b : Nat) (w : E0) (X : WX) (T : List (Value × Value)) (L : List Value) (t : Int) (hw : WI w) : M7 184 [AV.ptr b 0, AV.int t] (WB b w X T L) (fun v : E0 × Bool => WI v.1 ∧ WS w v.1) (fun v => WB b v.1 X T L) (fun v => AV.bool v.2) := by
 have hng := hw.n;refine C5 Tryz.func184 rfl Tryz.ntmps184 rfl ?_;refine R16 ?_;refine AWP.le (B9 [0, 0, 0, 0, 0, 0, 0] rfl) ?_;refine K3 [(0, _), (1, _), (11, _)] [] (fun (i : Nat) (v : E0) => i ≤ w.Groups.length ∧ WI v ∧ WS w v) (fun i v => [.box b 196 [AV.int v.Now, AV.int v.Count, AV.is X.cl, strs v.Cuts, AV.is X.gr, AV.is X.lo, AV.is X.pr, AV.is X.tx, AV.is X.lk], .arr X.cl 235 1 (v.Clocks.map u9.cs), .arr X.gr 168 3 (v.Groups.map C8.cs), .arr X.lo 200 1 (v.Locks.map fun l => [AV.list 3 (l.map J5.cs)]), .arr X.pr 3 1 (v.Promised.map fun n => [AV.int n]), .arr X.tx 132 10 (L7 B1.ocs v.Txns T), .arr X.lk 141 6 (L7 B5.ocs v.Looks L)] ++ (nwZ v T L)) (fun i v => [(12, AV.int i)]) (fun i v => w.Groups.length - i) (0) (w) ?_ (I6 (by (rw [S1]; rfl)) A5) ?_
 ·exact ⟨D6 _, hw, WS.refl w⟩
 intro i v hinv;refine K2 (S1 _) ?_;refine R5 ?_;refine A2 ?_ ?_
 ·intro h13;have k13 := C6 h13;obtain ⟨gi, hgi⟩ := B3 (show ((i : Nat) : Int).toNat < v.Groups.length by rw [hinv.2.2.groups]; omega);refine R13 ?_;refine J7 [0, 0, 0, 0, 0, 0, 0] 0 7 (nwZ v T L) ([]) (fun zz => nwZ zz.1 T L) rfl rfl rfl rfl Tryz.call201 rfl rfl (show List.Perm (nwZ v T L) ((nwZ v T L) ++ ([])) from B6) (CX3 b v X T L (i : Int) t gi hinv.2.1 qz8 hgi) AD6 (fun a => L9) ?_;intro x18 ok18;refine R1 ?_;refine A2 ?_ ?_
  ·intro h18;refine R5 ?_;exact I3 [0, 0, 0, 0, 0, 0, 0] 0 (nwZ x18.1 T L) [] ((x18.1, true)) ((by first | exact ⟨ok18.1, hinv.2.2.trans ok18.2⟩ | exact hinv.2)) rfl (show List.Perm (nwZ x18.1 T L) ((nwZ x18.1 T L) ++ []) from B6) B7 K5
  intro h18;refine R5 ?_;refine G8 i v (i + 1) (x18.1) ?_ ?_ (I6 (Eq.trans B7 (S1 _).symm) A5)
  ·exact ⟨by omega, ok18.1, hinv.2.2.trans ok18.2⟩
  omega
 intro h13;have k13 := C2 h13;refine R6 ?_;exact I3 [0, 0, 0, 0, 0, 0, 0] 0 (nwZ v T L) [] ((v, false)) ((by first | exact ⟨ok18.1, hinv.2.2.trans ok18.2⟩ | exact hinv.2)) rfl (show List.Perm (nwZ v T L) ((nwZ v T L) ++ []) from B6) B7 K5
end Go.PQ
namespace Go.PQ
open Go.Proofs
open Go Go.AV Go.M
attribute [local irreducible] OpW OpA OpS AWP J3 K8 K0 OpE J6 H5 J9 Le Ev F8 L6 Z8 Int.tmod Int.tdiv IntKind.wrap Q7
theorem goOn_own (b : Nat) (w : E0) (X : WX) (T : List (Value × Value)) (L : List Value) (t : Int) (hw : WI w) (hc : ∀ x ∈ w.Txns, x.Begin < w.Count) (hT : T.length = w.Txns.length) (ht : 1 ≤ t ∧ (t - 1).toNat < w.Txns.length) : M7 183 [AV.ptr b 0, AV.int t] (WB b w X T L) (fun v : (E0 × Bool) × List (Value × Value) => (WI v.1.1 ∧ WS w v.1.1) ∧ v.2.length = T.length) (fun v => WB b v.1.1 X v.2 L) (fun v => AV.bool v.1.2) := by
 have htn := hw.txns.1;obtain ⟨tx, htx⟩ := B3 ht.2;obtain ⟨y, hy⟩ := B3 (show (t - 1).toNat < T.length by omega);have htk := hw.txns.2 tx (C3 htx);have hsb := htk.sb;have hstep := BH6 tx.Ops y.1 tx.Got hsb.len hsb.ops hsb.got.2;refine C5 Tryz.func183 rfl Tryz.ntmps183 rfl ?_;refine R13 ?_;refine A1 rfl (H6 5 rfl M5 S4 (A0 rfl) rfl (A0 rfl) qz8 Al6) ?_;refine R7 ?_;refine A1 rfl (X1 5 rfl (A0 rfl) rfl qz2 rfl) ?_;refine A1 rfl (L0 5 rfl I8 rfl S0 (A0 rfl) rfl rfl qz2) ?_;refine A1 rfl (M6 5 rfl (A0 rfl) rfl AA3 qz2 rfl) ?_;refine R2 ?_;refine A2 ?_ ?_
 ·intro h17;refine R5 ?_;exact I3 [0, 0, 0, 0, 0, 0, 0] 0 (nwZ w T L) [] (((w, false), T)) (Bi5) rfl (show List.Perm (nwZ w T L) ((nwZ w T L) ++ []) from B6) B7 K5
 intro h17;refine R3 ?_;refine A1 rfl (X1 5 rfl (A0 rfl) rfl qz2 rfl) ?_;refine A1 rfl (L0 5 rfl I8 rfl D0 (A0 rfl) rfl rfl qz2) ?_;refine A1 rfl (M6 5 rfl (A0 rfl) rfl P4 qz2 rfl) ?_;refine R3 ?_;refine A2 ?_ ?_
 ·intro h22;have hwf := wf_beg hw htx BL4;obtain ⟨W', hW⟩ : ∃ W', AH9 w (t - 1).toNat (Bu3 tx w.Count) = W' := ⟨_, rfl⟩;rw [hW] at hwf;refine R8 ?_;refine A1 rfl (X1 5 rfl (A0 rfl) rfl qz2 rfl) ?_;refine A1 rfl (L0 5 rfl I8 rfl D0 (A0 rfl) rfl rfl qz2) ?_;refine X3 5 rfl rfl rfl (A0 rfl) (A0 rfl) (Z2 _ _) rfl D0 qz2 rfl ?_;refine R2 ?_;refine K2 (show _ = WB b W' X T L from (by rw [← hW]; unfold WB AH9; dsimp only; rw [AJ4 htx hy, Ac5 (p' := Bu3 tx w.Count) htx (fun _ => rfl)]; rfl)) ?_;refine R4 ?_;exact I3 [0, 0, 0, 0, 0, 0, 0] 0 (nin B1.ow W'.Txns T ++ nin B5.ow W'.Looks L) [] (((W', true), T)) (Bi5) rfl (show List.Perm (nin B1.ow W'.Txns T ++ nin B5.ow W'.Looks L) ((nin B1.ow W'.Txns T ++ nin B5.ow W'.Looks L) ++ []) from B6) B7 K5
 intro h22;have hbg : 0 ≤ tx.Begin := (by simp at h22; omega);have hq : ∀ tx, w.Txns[(t - 1).toNat]? = some tx → 0 ≤ tx.Begin ∧ tx.Begin < w.Count := (fun z hz => by rw [htx] at hz; injection hz with hz; subst hz; exact ⟨hbg, hc _ (C3 htx)⟩);refine R3 ?_;refine A1 rfl (X1 5 rfl (A0 rfl) rfl qz2 rfl) ?_;refine A1 rfl (L0 5 rfl I8 rfl D0 (A0 rfl) rfl rfl qz2) ?_;refine A1 rfl (M6 5 rfl (A0 rfl) rfl P4 qz2 rfl) ?_;refine R3 ?_;refine A2 ?_ ?_
 ·intro h36;refine R4 ?_;refine J7 [0, 0, 0, 0, 0, 0, 0] 0 7 (nwZ w T L) ([]) (fun zz => nwZ zz.1 T L) rfl rfl rfl rfl Tryz.call184 rfl rfl (show List.Perm (nwZ w T L) ((nwZ w T L) ++ ([])) from B6) (Bs6 b w X T L t hw) E4 (fun a => L9) ?_;intro x44 ok44;refine R3 ?_;exact I3 [0, 0, 0, 0, 0, 0, 0] 0 (nwZ x44.1 T L) [] (((x44.1, x44.2), T)) (Bi5) rfl (show List.Perm (nwZ x44.1 T L) ((nwZ x44.1 T L) ++ []) from B6) B7 K5
 intro h36;refine R3 ?_;refine A1 rfl (X1 5 rfl (A0 rfl) rfl qz2 rfl) ?_;refine A1 rfl (L0 5 rfl I8 rfl S0 (A0 rfl) rfl rfl qz2) ?_;refine A1 rfl (M6 5 rfl (A0 rfl) rfl AA3 qz2 rfl) ?_;refine R2 ?_;refine A2 ?_ ?_
 ·intro h45;refine R4 ?_;refine J7 [0, 0, 0, 0, 0, 0, 0] 0 7 (nwZ w T L) ([]) (fun zz => nwZ zz.1 T L) rfl rfl rfl rfl Tryz.call197 rfl rfl (show List.Perm (nwZ w T L) ((nwZ w T L) ++ ([])) from B6) (dead_own b w X T L t hw hq hT ht) E4 (fun a => L9) ?_;intro x52 ok52;refine R3 ?_;exact I3 [0, 0, 0, 0, 0, 0, 0] 0 (nwZ x52.1 T L) [] (((x52.1, x52.2), T)) (Bi5) rfl (show List.Perm (nwZ x52.1 T L) ((nwZ x52.1 T L) ++ []) from B6) B7 K5
 intro h45;refine R2 ?_;refine AWP.le (Q8 7 (t := ([Go.AV.Own.arr y.1 80 3 (tx.Got.map H4.cs), Go.AV.Own.arr y.2 3 1 (tx.Terms.map fun n => [AV.int n])]) ++ (nin B1.ow (w.Txns.eraseIdx (t - 1).toNat) (T.eraseIdx (t - 1).toNat) ++ nin B5.ow w.Looks L)) (AR2 htx hy)) ?_;refine P3 _ [(0, false), (1, false), (2, false), (3, false), (4, false), (5, false), (6, false), (7, false), (8, true), (9, false), (10, false), (11, false), (12, false), (13, false), (14, false)] E3 E3 rfl (S8 7) ?_;refine R1 ?_;refine P1 rfl rfl rfl (fun ext => X1 5 rfl (A0 rfl) rfl qz2 rfl) ?_;refine P1 rfl rfl rfl (fun ext => L0 5 rfl I8 rfl Tryz.sizeOf109 (A0 rfl) rfl rfl qz2) ?_;refine P1 rfl rfl rfl (fun ext => M6 5 rfl (A0 rfl) rfl Tryz.isAgg109 qz2 rfl) ?_;refine R1 ?_;refine P1 rfl rfl rfl (fun ext => X1 5 rfl (A0 rfl) rfl qz2 rfl) ?_;refine P1 rfl rfl rfl (fun ext => L0 5 rfl I8 rfl Q6 (A0 rfl) rfl rfl qz2) ?_;refine P1 rfl rfl rfl (fun ext => M6 5 rfl (A0 rfl) rfl w7 qz2 rfl) ?_;refine U2 rfl rfl rfl (r6 8 (S5 [7] rfl Tryz.call108 rfl (hstep) E4 rfl)) (fun a _ => qz4) ?_;intro x62 ok62;refine R11 ?_;refine AWP.le (B9 [0, 0, 0, 0, 0, 0, 0, 1, 0] rfl) ?_;refine AWP.le (Q8 7 (t := nwZ w T L) ((AR2 htx hy).symm)) ?_;refine K2 AT4 ?_;refine R9 ?_;refine A2 ?_ ?_
 ·intro h67;have k67 := K6 h67;(try simp only [A6] at k67);have hkl := step_ask htk (by simpa using h67);refine R5 ?_;refine J7 [0, 0, 0, 0, 0, 0, 0] 0 7 (nwZ w T L) ([]) (fun zz => nwZ zz.1.1 zz.2 L) rfl rfl rfl rfl Tryz.call198 rfl rfl (show List.Perm (nwZ w T L) ((nwZ w T L) ++ ([])) from B6) (read_own b w X T L t _ hw hT ht hkl) AD6 (fun a => L9) ?_;intro x72 ok72;refine R3 ?_;exact I3 [0, 0, 0, 0, 0, 0, 0] 0 (nwZ x72.1.1 x72.2 L) [] (((x72.1.1, x72.1.2), x72.2)) (Bi5) rfl (show List.Perm (nwZ x72.1.1 x72.2 L) ((nwZ x72.1.1 x72.2 L) ++ []) from B6) B7 K5
 intro h67;have k67 := J4 h67;(try simp only [A6] at k67);refine R5 ?_;refine A2 ?_ ?_
 ·intro h73;have k73 := K6 h73;(try simp only [A6] at k73);refine R4 ?_;refine J7 [0, 0, 0, 0, 0, 0, 0] 0 7 (nwZ w T L) ([]) (fun zz => nwZ zz T L) rfl rfl rfl rfl Tryz.call199 rfl rfl (show List.Perm (nwZ w T L) ((nwZ w T L) ++ ([])) from B6) (Az2 b w X T L t hw hT qz8) E4 (fun a => L9) ?_;intro x77 ok77;refine R6 ?_;exact I3 [0, 0, 0, 0, 0, 0, 0] 0 (nwZ x77 T L) [] (((x77, true), T)) (Bi5) rfl (show List.Perm (nwZ x77 T L) ((nwZ x77 T L) ++ []) from B6) B7 K5
 intro h73;have k73 := J4 h73;(try simp only [A6] at k73);refine R5 ?_;refine J7 [0, 0, 0, 0, 0, 0, 0] 0 7 (nwZ w T L) ([]) (fun zz => nwZ zz.1 T L) rfl rfl rfl rfl Tryz.call200 rfl rfl (show List.Perm (nwZ w T L) ((nwZ w T L) ++ ([])) from B6) (Cq0 b w X T L t hw hq hT ht) E4 (fun a => L9) ?_;intro x80 ok80;refine R3 ?_;exact I3 [0, 0, 0, 0, 0, 0, 0] 0 (nwZ x80.1 T L) [] (((x80.1, x80.2), T)) (Bi5) rfl (show List.Perm (nwZ x80.1 T L) ((nwZ x80.1 T L) ++ []) from B6) B7 K5
end Go.PQ