/- Texts of the claim, part 8. -/
import Derived.Test.YtmggojkfhodjbaaGreatDoorZHistories7
set_option linter.defProp false
set_option linter.unusedVariables false
set_option linter.unusedSimpArgs false
set_option maxRecDepth 100000
set_option maxHeartbeats 4000000
namespace Go.M
open Go.AV
theorem DZ1 (l : List Int) (n : Int) : (AV8 l n).length ≤ l.length + 1 := by
  induction l with
  | nil => simp [AV8]
  | cons y l ih =>
    unfold AV8;split
    · rw [I9, I9]; omega
    · split <;> simp
theorem Cc6 {n m : Int} : ∀ {l : List Int}, m ∈ AV8 l n → m = n ∨ m ∈ l
  | [], h => by unfold AV8 at h; exact .inl (X9.1 h)
  | x :: l, h => by
    unfold AV8 at h;split at h
    · rcases T0.1 h with h | h
      · exact .inr (h ▸ a8)
      · rcases Cc6 h with h | h
        · exact .inl h
        · exact .inr (S7 _ h)
    · split at h
      · exact .inr h
      · rcases T0.1 h with h | h
        · exact .inl h
        · exact .inr h
theorem CL2 {m : Int} : ∀ {l : List H3} {a : List Int}, m ∈ l.foldl (fun a y => AV8 a y.Txn) a → m ∈ a ∨ ∃ y ∈ l, y.Txn = m
  | [], a, h => .inl h
  | y :: l, a, h => by
    rw [List.foldl_cons] at h;rcases CL2 h with h | ⟨z, hz, e⟩
    · rcases Cc6 h with h | h
      · exact .inr ⟨y, a8, h.symm⟩
      · exact .inl h
    · exact .inr ⟨z, S7 _ hz, e⟩
theorem ask_mem9 {l : List H3} {x : H3} (h : AY3 l) : ∀ n ∈ (Az8 l [] x (AG3 l x)).2, 1 ≤ n ∧ n ≤ 1000000 := fun n hn => by
  have hw : n ∈ AG3 l x := by
    unfold Az8 at hn;split at hn
    · cases hn
    · split at hn
      · cases hn
      · exact hn
  unfold AG3 at hw;rcases CL2 hw with h1 | ⟨y, hy, e⟩
  · cases h1
  · rw [← e]; exact (h.2 y (List.mem_filter.1 hy).1).1
theorem ask_len9 {l : List H3} {x : H3} : (Az8 l [] x (AG3 l x)).2.length ≤ l.length := by
  have h : (AG3 l x).length ≤ l.length := by
    have h1 : ∀ (m : List H3) (a : List Int), (m.foldl (fun a y => AV8 a y.Txn) a).length ≤ a.length + m.length := fun m => by
      induction m with
      | nil => intro a; simp
      | cons y m ih => intro a; rw [List.foldl_cons]; have h2 := ih (AV8 a y.Txn); have h3 := DZ1 a y.Txn; rw [I9]; omega
    have h2 := h1 (l.filter (Ar0 x)) [];have h3 := List.length_filter_le (Ar0 x) l;unfold AG3;rw [Q8] at h2; omega
  unfold Az8;split
  · exact E2 _
  · split
    · exact E2 _
    · exact h
theorem Cc7 {x z : H3} : ∀ {l : List H3}, z ∈ AO5 l x → z = x ∨ ∃ y ∈ l, z.Key = y.Key ∧ z.Txn = y.Txn
  | [], h => by unfold AO5 at h; exact .inl (X9.1 h)
  | y :: l, h => by
    unfold AO5 at h;split at h
    · rcases T0.1 h with h | h
      · exact .inr ⟨y, a8, by rw [h], by rw [h]⟩
      · exact .inr ⟨z, S7 _ h, rfl, rfl⟩
    · rcases T0.1 h with h | h
      · exact .inr ⟨y, a8, by rw [h], by rw [h]⟩
      · rcases Cc7 h with h | ⟨q, hq, e⟩
        · exact .inl h
        · exact .inr ⟨q, S7 _ hq, e⟩
theorem take_ok9 {l : List H3} {x : H3} (h : AY3 l) (hx : (1 ≤ x.Txn ∧ x.Txn ≤ 1000000) ∧ x.Key.length ≤ 64) (hl : (AO5 l x).length ≤ 60) : AY3 (AO5 l x) := by
  refine ⟨hl, fun z hz => ?_⟩;rcases Cc7 hz with e | ⟨y, hy, e1, e2⟩
  · rw [e]; exact hx
  · have h9 := h.2 y hy
    refine ⟨by rw [e2]; exact h9.1, ?_⟩;have h8 := h9.2;unfold H3.size at h8 ⊢; rw [e1]; exact h8
theorem DZ2 {x : H3} : ∀ {l : List H3}, (AO5 l x).length ≤ l.length + 1
  | [] => by unfold AO5; exact N2 _
  | y :: l => by
    unfold AO5;split
    · simp
    · rw [I9, I9]; have := DZ2 (x := x) (l := l); omega
theorem Ag9 {α : Type} {l : List α} {i : Nat} {x y : α} (h : l[i]? = some x) : (l.set i y)[i]? = some y := AZ9 (G2.1 h).1
theorem BK1 {T X : Type} {ocs : T → X → List AV} {l : List T} {xs : List X} {i : Nat} (h : l[i]? = none ∨ xs[i]? = none) : (J9 ocs l xs)[i]? = none := by
  unfold J9;rw [List.getElem?_zipWith];rcases h with h | h
  · rw [h]
  · rw [h]; cases l[i]? <;> rfl
def AL0 (t : B5) (g : Nat) (n : Int) : B5 := { t with Terms := t.Terms.set g n }
theorem wf_lock {w : D1} (hw : WI w) {g : Nat} {l : List H3} (hl : AY3 l) {i : Nat} {t : B5} (ht : w.Txns[i]? = some t) (n : Int) : WF w (AO0 (An2 w g l) i (AL0 t g n)) := by
  have h1 := Co9 hw (i := g) hl;have h := hw.txns.2 t (C2 ht);have h2 := BF8 h1.1 (i := i) (t := AL0 t g n) ⟨by show (t.Terms.set g n).length = _; rw [Z1]; exact h.terms, h.ops, h.got, h.span⟩;exact ⟨h2.1, h1.2.trans h2.2, rfl, rfl⟩
theorem Cc8 (s : Str) : -999999 ≤ (l5N s).1 ∧ (l5N s).1 ≤ 999999 := by
  cases h : (l5N s).2 with
  | false => rw [Co6 s h]; decide
  | true => exact (Co5 (s := s) (n := (l5N s).1) (by rw [← h])).2
theorem BW6 {buf : List A5} {got : List F9} {k : Str} {n : Nat} (hb : ∀ w ∈ buf, w.size ≤ n) (hg : ∀ g ∈ got, g.size ≤ n) : (C4 buf got k).1.length ≤ n := by
  unfold C4;split
  · rename_i w hw
    have := hb w (Ah2 hw);unfold A5.size at this; dsimp only; omega
  · split
    · rename_i g hg2
      have := hg g (Ah2 hg2);unfold F9.size at this; dsimp only; omega
    · exact E2 _
theorem Af4 {α : Type} {p : α → Bool} {l : List α} {i : Nat} {x : α} (h : l[i]? = some x) : (l.drop i).find? p = if p x = true then some x else (l.drop (i + 1)).find? p := by
  rw [J7 h];by_cases hp : p x = true
  · rw [List.find?_cons_of_pos hp, D3 hp]
  · rw [List.find?_cons_of_neg hp, C5 hp]
structure WD (l : List A5) : Prop where
  keys : (T8 l).Sublist keyS
  vals : ∀ w ∈ l, AE2 w.Val w.Gone = true
theorem DZ3 {l : List Str} (h1 : ∀ k ∈ l, q6 k = true) (h2 : AV6 l) : o8 l = true := by
  unfold o8;rw [Y6.2 h1, (Ag3 (p := Op.bytesLess) (fun _ _ _ => W0)).2 h2]; rfl
structure OI (n : Int) (l : List Ah9) : Prop where
  good : ∀ o ∈ l, orderR o = true ∧ o.Txn < n
  nodup : (l.map Ah9.Txn).Nodup
theorem BB8 {s : E9} (h : w7 s = true) : s.size ≤ 15000 := by
  have g := AN6.1 h;have h1 := Bm6 g.cells;have h2 := w6 (f := D2.size) (c := 400) (l := s.Held) fun k hk => AX9 (g.good k hk).1;have h3 := g.hlen;have h4 := g.tlen;show C9 B6.size s.Cells + C9 D2.size s.Held + s.Told.length ≤ 15000
  omega
theorem DZ4 {cuts ks : List Str} {p : Int} (h : p ∈ BA3 cuts ks) : 0 ≤ p ∧ p ≤ cuts.length := by
  rcases ((BW4 (cuts := cuts) (ks := ks) (a := []) List.Pairwise.nil).2 p).1 h with h | ⟨k, _, e⟩
  · cases h
  · have := CB8 cuts k
    omega
theorem BO7 {α : Type} {f : α → Nat} {p : α → Bool} : ∀ {l : List α}, C9 f (l.filter p) ≤ C9 f l
  | [] => N2 _
  | x :: l => by
    have ih := BO7 (f := f) (p := p) (l := l)
    cases hp : p x with
    | true => rw [List.filter_cons_of_pos hp, X7, X7]; omega
    | false => rw [List.filter_cons_of_neg (by rw [hp]; decide), X7]; omega
theorem BE3 {α : Type} {p : α → Bool} {l : List α} {i : Nat} {x : α} (h : l[i]? = some x) : (l.take (i + 1)).filter p = (l.take i).filter p ++ (if p x = true then [x] else []) := by
  rw [W1, h, List.filter_append]
  cases hp : p x <;> simp [hp]
def inS (cuts : List Str) (part : Int) (k : Str) : Bool := ((AC7 cuts k : Int) == part)
def y8 (got : List F9) : List Str := got.foldl (fun a g => AE7 a g.Key) []
theorem Cc9 : ∀ {got : List F9} {a : List Str}, AV6 a → AV6 (got.foldl (fun a g => AE7 a g.Key) a)
  | [], a, h => h
  | g :: got, a, h => by rw [List.foldl_cons]; exact Cc9 (BN4 h).1
theorem Cd0 : ∀ {got : List F9} {a : List Str}, (got.foldl (fun a g => AE7 a g.Key) a).length ≤ a.length + got.length
  | [], a => N2 _
  | g :: got, a => by rw [List.foldl_cons]; have h1 := Cd0 (got := got) (a := AE7 a g.Key); have h2 := Be0 g.Key a; rw [I9]; omega
theorem CL3 (got : List F9) : AV6 (y8 got) := Cc9 List.Pairwise.nil
theorem BK2 (got : List F9) : (y8 got).length ≤ got.length := by have := Cd0 (got := got) (a := []); simpa [y8] using this
theorem CL4 {got : List F9} {i : Nat} {g : F9} (h : got[i]? = some g) : y8 (got.take (i + 1)) = AE7 (y8 (got.take i)) g.Key := by
  unfold y8;rw [W1, h, List.foldl_append]; rfl
def AW3 (cuts : List Str) (t : B5) : List Int := BA3 cuts (Ap2 (y8 t.Got ++ T8 (Q2 t.Ops t.Got).2.2))
def Ar2 (t : B5) : Bool := ((Q2 t.Ops t.Got).1 == 3) && decide (0 < ((y8 t.Got).length : Int) + ((Q2 t.Ops t.Got).2.2.length : Int))
structure SetB (t : B5) : Prop where
  len : t.Ops.length ≤ 1000
  ops : ∀ o ∈ t.Ops, Aj0 1000 o
  got : t.Got.length ≤ 1000 ∧ ∀ g ∈ t.Got, g.size ≤ 1000
theorem Br2.sb {n : Nat} {c : Int} {t : B5} (h : Br2 n c t) : SetB t where
  len := by have h9 := h.ops.1; unfold AB9 at h9; rw [D8, H5] at h9; have := h9.1; omega
  ops := fun o ho => by have h9 := AT5 h.ops.1 o ho; exact ⟨L4 h9.size D4, h9.by', h9.key⟩
  got := ⟨L4 h.got.1 D4, fun g hg => L4 (h.got.2 g hg) D4⟩
theorem Cd1 {cuts : List Str} {t : B5} (h : Ar2 t = true) : ∃ p, (AW3 cuts t)[0]? = some p := by
  unfold Ar2 at h;simp only [D8, H5] at h;have h0 := h.2;have hk : ∃ k, k ∈ Ap2 (y8 t.Got ++ T8 (Q2 t.Ops t.Got).2.2) := by
    cases hr : y8 t.Got with
    | cons k r => exact ⟨k, (BR9 _ _).2 Y1⟩
    | nil =>
      cases hw : (Q2 t.Ops t.Got).2.2 with
      | cons w r => exact ⟨w.Key, (BR9 _ _).2 (by simp [T8])⟩
      | nil => rw [hr, hw] at h0; simp at h0
  obtain ⟨k, hk⟩ := hk;have h1 := ((BW4 (cuts := cuts) (ks := Ap2 (y8 t.Got ++ T8 (Q2 t.Ops t.Got).2.2)) (a := []) List.Pairwise.nil).2 (AC7 cuts k)).2 (.inr ⟨k, hk, rfl⟩);exact B3 (List.length_pos_of_mem h1)
theorem CU8 {cuts : List Str} {t : B5} {p : Int} (h : p ∈ AW3 cuts t) : 0 ≤ p ∧ p ≤ cuts.length := DZ4 h
def CP0 (t : B5) (x : G7) (c : Int) : B5 := { t with Yes := x.Yes, Time := x.Time, End := c }
theorem wf_fin {w : D1} (hw : WI w) {i : Nat} {t : B5} (ht : w.Txns[i]? = some t) (hq : 0 ≤ t.Begin ∧ t.Begin < w.Count) (x : G7) : WF w (AO0 w i (CP0 t x w.Count)) := by
  have h := hw.txns.2 t (C2 ht);have h2 := BF8 hw (i := i) (t := CP0 t x w.Count) ⟨h.terms, h.ops, h.got, h.span.1, .inr ⟨hq.1, hq.2, Int.le_refl _⟩⟩;exact zq142
theorem Bg3 {w : D1} (hw : WI w) {g : Int} {gi : D0} (h0 : 0 ≤ g) (hx : w.Groups[g.toNat]? = some gi) (hl : 0 ≤ gi.Lead) : ∃ c, w.Clocks[(3 * g + gi.Lead).toNat]? = some c ∧ AB6 c = true ∧ gi.Lead < 3 ∧ g ≤ 2 ∧ M.j6 w.Now = true ∧ -1000000 ≤ (AK9 c w.Now).High ∧ (AK9 c w.Now).High ≤ 1000000 := by
  have hgi := hw.groups gi (C2 hx);have hli := BM0 hgi.good hl;have h3 := hgi.three;have hgl := (G2.1 hx).1;have hng := hw.n;obtain ⟨c, hc⟩ := B3 (show (3 * g + gi.Lead).toNat < w.Clocks.length by rw [hw.clocks.1]; omega);have h9 := hw.clocks.2 c (C2 hc);have h8 := hw.now;refine ⟨c, hc, ?_, by omega, by omega, ?_, ?_, ?_⟩
  · unfold AB6 within; rw [D8, H5, H5]; exact h9
  · unfold M.j6 within; rw [D8, H5, H5]; exact h8
  · show -1000000 ≤ w.Now + c.Off + 5; omega
  · show w.Now + c.Off + 5 ≤ 1000000; omega
theorem CL5 {l : List B6} (h : AA6 l = true) (k : Str) (t : Int) : (cellAt l k t).1.length ≤ 24 := by
  unfold cellAt;split
  · rename_i c hc
    obtain ⟨_, _, h3⟩ := AI3 h;have hm : c ∈ l := by unfold m8 at hc; exact Ah2 hc
    unfold BC1;split
    · rename_i v hv
      have h9 := (h3 c hm).2.2.2.2 v (List.mem_reverse.1 (Ah2 hv));unfold AY1 AE2 AO9 at h9; simp only [D8, H5] at h9; dsimp only; omega
    · exact E2 _
  · exact E2 _
def Ar3 (t : B5) (g : F9) : B5 := { t with Got := t.Got ++ [g] }
theorem wf_got {w : D1} (hw : WI w) {i : Nat} {t : B5} (ht : w.Txns[i]? = some t) {g : F9} (hl : t.Got.length < 8) (hg : g.size ≤ 64) : WF w (AO0 w i (Ar3 t g)) := by
  have h := hw.txns.2 t (C2 ht);have h2 := BF8 hw (i := i) (t := Ar3 t g) ⟨h.terms, h.ops, ⟨by show (t.Got ++ [g]).length ≤ 8; rw [G3]; simp; omega, fun x hx => by
    rcases u6.1 (show x ∈ t.Got ++ [g] from hx) with hx | hx
    · exact h.got.2 x hx
    · rw [X9.1 hx]; exact hg⟩, h.span⟩
  exact zq142
theorem CL6 {w : D1} (hw : WI w) (k : Str) : ∃ gi, w.Groups[((AC7 w.Cuts k : Nat) : Int).toNat]? = some gi ∧ (AC7 w.Cuts k : Nat) < w.Groups.length := by
  have h1 := CB8 w.Cuts k;have h2 := hw.cuts.1;obtain ⟨gi, hg⟩ := B3 (show ((AC7 w.Cuts k : Nat) : Int).toNat < w.Groups.length by omega);exact ⟨gi, hg, by omega⟩
def BA5 (t : B5) : B5 := { t with Put := true }
theorem DG7 {w : D1} (hw : WI w) {i : Nat} {t : B5} (ht : w.Txns[i]? = some t) (g : Nat) (n : Int) : WI (AO0 w i (AL0 (BA5 t) g n)) ∧ WS w (AO0 w i (AL0 (BA5 t) g n)) := by
  have h := hw.txns.2 t (C2 ht);exact BF8 hw (i := i) (t := AL0 (BA5 t) g n) ⟨by show (t.Terms.set g n).length = _; rw [Z1]; exact h.terms, h.ops, h.got, h.span⟩
theorem Ab4 {u v w : D1} (h : WF u v) (k : WI w ∧ WS v w) : WI w ∧ WS u w := ⟨k.1, h.ws.trans k.2⟩
theorem Ay4 {α : Type} {f : α → Nat} : ∀ {l : List α}, l.length ≤ C9 f l
  | [] => E2 _
  | x :: l => by rw [X7, I9]; have := Ay4 (f := f) (l := l); omega
theorem Bj4 {P : Str → Prop} {got : List F9} : ∀ {l : List TOp} {buf : List A5}, (∀ o ∈ l, P o.Key) → (∀ w ∈ buf, P w.Key) → ∀ w ∈ (e8 got buf l).2.2, P w.Key
  | [], buf, _, hb => hb
  | o :: l, buf, ho, hb => by
    unfold e8;split
    · intro w hw; cases hw
    · split
      · intro w hw; cases hw
      · refine Bj4 (fun x hx => ho x (S7 _ hx)) fun w hw => ?_
        have hm : w.Key ∈ T8 (U1 o (C4 buf got o.Key).1 (C4 buf got o.Key).2.1 buf) := m1.2 ⟨w, hw, rfl⟩;rcases DK6 hm with e | e
        · rw [e]; exact ho o a8
        · obtain ⟨z, hz, e⟩ := m1.1 e
          rw [← e]; exact hb z hz
theorem Bg4 {l : List TOp} {got : List F9} (h : ∀ o ∈ l, o.Key ∈ AD0) : ∀ w ∈ (Q2 l got).2.2, w.Key ∈ AD0 := Bj4 h fun w hw => by cases hw
theorem Cd2 : ∀ {got : List F9} {a : List Str}, C9 (fun s : Str => s.length) (got.foldl (fun a g => AE7 a g.Key) a) ≤ C9 (fun s : Str => s.length) a + C9 F9.size got
  | [], a => by simp [C9]
  | g :: got, a => by
    rw [List.foldl_cons, X7];have h1 := Cd2 (got := got) (a := AE7 a g.Key);have h2 := Cb8 g.Key a;have h3 : g.Key.length ≤ g.size := by unfold F9.size; omega
    omega
theorem Br2.sizes {n : Nat} {c : Int} {t : B5} (h : Br2 n c t) : C9 (fun s : Str => s.length) (y8 t.Got) + C9 A5.size (Q2 t.Ops t.Got).2.2 ≤ 1000 := by
  have h1 := Cd2 (got := t.Got) (a := []);have h2 := w6 (f := F9.size) (c := 64) (l := t.Got) h.got.2;have h3 : t.Got.length * (64 + 1) ≤ 8 * 65 := AA3 _ h.got.1;have hr := ran (got := t.Got) (n := 36) D4 (AT5 h.ops.1);have h4 := w6 (f := A5.size) (c := 36) (l := (Q2 t.Ops t.Got).2.2) hr.size;have h5 : t.Ops.length ≤ 8 := by have h9 := h.ops.1; unfold AB9 at h9; rw [D8, H5] at h9; have := h9.1; omega
  have h6 : (Q2 t.Ops t.Got).2.2.length * (36 + 1) ≤ 8 * 37 := AA3 _ (by have := hr.len; omega);have h7 : C9 (fun s : Str => s.length) (y8 t.Got) ≤ C9 F9.size t.Got := by unfold y8; have h8 : C9 (fun s : Str => s.length) ([] : List Str) = 0 := rfl; omega
  omega
theorem CD0 {w : D1} (hw : WI w) {p : Int} (h : 0 ≤ p ∧ p ≤ w.Cuts.length) : ∃ gi, w.Groups[p.toNat]? = some gi := B3 (by have := hw.cuts.1; omega)
def CP1 (t : B5) (c : Int) : B5 := { t with End := c }
theorem wf_end {w : D1} (hw : WI w) {i : Nat} {t : B5} (ht : w.Txns[i]? = some t) (hq : 0 ≤ t.Begin ∧ t.Begin < w.Count) : WF w (AO0 w i (CP1 t w.Count)) := by
  have h := hw.txns.2 t (C2 ht);have h2 := BF8 hw (i := i) (t := CP1 t w.Count) ⟨h.terms, h.ops, h.got, h.span.1, .inr ⟨hq.1, hq.2, Int.le_refl _⟩⟩;exact zq142
theorem DO9 {s : E9} (g : GS s) (n : Int) : 0 ≤ (AS9 s.Held n).1.Lead ∧ (AS9 s.Held n).1.Lead ≤ 3 := by
  unfold AS9
  cases hf : AH7 s.Held n with
  | none => exact ⟨Int.le_refl 0, by decide⟩
  | some h =>
    have h1 := (g.good h (Ao1 hf).1).1;unfold T2 BE5 Ab5 at h1;rw [D3 rfl] at h1;simp only [D8] at h1;have h2 := h1.1.1.1.1.1.1.2;unfold within at h2
    rw [D8, H5, H5] at h2;exact h2
def CP2 (t : B5) (c : Int) : B5 := { t with Begin := c }
theorem wf_beg {w : D1} (hw : WI w) {i : Nat} {t : B5} (ht : w.Txns[i]? = some t) (hb : t.Begin < 0) : WF w (AO0 w i (CP2 t w.Count)) := by
  have h := hw.txns.2 t (C2 ht);have hs := h.span;have h2 := BF8 hw (i := i) (t := CP2 t w.Count) ⟨h.terms, h.ops, h.got, Int.le_refl _, .inl (by show t.End = -1; omega)⟩;exact zq142
theorem step_ask {n : Nat} {c : Int} {t : B5} (h : Br2 n c t) (e : (Q2 t.Ops t.Got).1 = 1) : (Q2 t.Ops t.Got).2.1.length ≤ 12 := by
  have hr := ran (got := t.Got) (n := 36) D4 (AT5 h.ops.1);obtain ⟨⟨o, ho, ek⟩, _⟩ := hr.ask e;have := (AZ3 (h.ops.2 o ho)).2;rw [← ek]; omega
end Go.M
namespace Go.PQ
open Go.Proofs Go.Proofs.Tryz
open Go Go.AV Go.M
attribute [local irreducible] OpW OpA OpS AWP K6 L8 K8 OpE K7 I7 L1 Le Ev G4 M7 j0 Int.tmod Int.tdiv IntKind.wrap T3
theorem Cd3 {T X : Type} {ocs : T → X → List AV} {l : List T} {xs : List X} {i : Nat} {p p' : T} {x x' : X} (hp : l[i]? = some p) (hx : xs[i]? = some x) : J9 ocs (l.set i p') (xs.set i x') = (J9 ocs l xs).set i (ocs p' x') := by
  apply List.ext_getElem?
  intro j;by_cases e : i = j
  · subst e
    rw [X6 (Ag9 hp) (Ag9 hx), Ag9 (X6 hp hx)]
  · rw [Aj7 e]
    cases h1 : l[j]? with
    | none => rw [BK1 (by rw [Aj7 e]; exact .inl h1), BK1 (.inl h1)]
    | some q =>
      cases h2 : xs[j]? with
      | none => rw [BK1 (by rw [Aj7 e (l := xs)]; exact .inr h2), BK1 (.inr h2)]
      | some z => rw [X6 (by rw [Aj7 e]; exact h1) (by rw [Aj7 e]; exact h2), X6 h1 h2]
theorem DP0 {T X : Type} {ocs : T → X → List AV} {l : List T} {xs : List X} {i : Nat} {p p' : T} {x : X} (hp : l[i]? = some p) (hx : xs[i]? = some x) (he : ocs p' x = ocs p x) : J9 ocs (l.set i p') xs = J9 ocs l xs := by rw [AP7 hp hx, he, BZ6 (X6 hp hx)]
theorem CL7 {w : D1} {T : List (Value × Value)} {L : List Value} {i : Nat} {p p' : B5} {y y' : Value × Value} (hp : w.Txns[i]? = some p) (hy : T[i]? = some y) : (B5.ow p' y' ++ (nin B5.ow (w.Txns.eraseIdx i) (T.eraseIdx i) ++ nin B9.ow w.Looks L)).Perm (nin B5.ow (w.Txns.set i p') (T.set i y') ++ nin B9.ow w.Looks L) := by
  have h9 := AX4 (ow := B5.ow) (Ag9 (y := p') hp) (Ag9 (y := y') hy);rw [List.eraseIdx_set_eq, List.eraseIdx_set_eq] at h9;rw [← m6];exact h9.symm.append_right _
theorem Bq1 {w : D1} {T : List (Value × Value)} {L : List Value} {i : Nat} {p : B9} {y : Value} (hp : w.Looks[i]? = some p) (hy : L[i]? = some y) : (nwZ w T L).Perm (B9.ow p y ++ (nin B9.ow (w.Looks.eraseIdx i) (L.eraseIdx i) ++ nin B5.ow w.Txns T)) := by
  refine List.perm_append_comm.trans ?_;rw [← m6];exact (AX4 (ow := B9.ow) hp hy).append_right _
theorem lk_put {w : D1} {T : List (Value × Value)} {L : List Value} {i : Nat} {p p' : B9} {y y' : Value} (hp : w.Looks[i]? = some p) (hy : L[i]? = some y) : (B9.ow p' y' ++ (nin B9.ow (w.Looks.eraseIdx i) (L.eraseIdx i) ++ nin B5.ow w.Txns T)).Perm (nin B5.ow w.Txns T ++ nin B9.ow (w.Looks.set i p') (L.set i y')) := by
  have h9 := AX4 (ow := B9.ow) (Ag9 (y := p') hp) (Ag9 (y := y') hy);rw [List.eraseIdx_set_eq, List.eraseIdx_set_eq] at h9;rw [← m6];exact (h9.symm.append_right _).trans AO2
theorem Cu6 (b : Nat) (w : D1) (X : WX) (T : List (Value × Value)) (L : List Value) (g t : Int) (k : Str) (write : Bool) (gi : D0) (hw : WI w) (hT : T.length = w.Txns.length) (ht : 1 ≤ t ∧ (t - 1).toNat < w.Txns.length) (h0 : 0 ≤ g) (hx : w.Groups[g.toNat]? = some gi) (hl : 0 ≤ gi.Lead) (hk : k.length ≤ 12) : L7 343 [AV.ptr b 0, AV.int g, AV.int t, AV.str k, AV.bool write] (WB b w X T L) (fun v : D1 × Bool => WF w v.1) (fun v => WB b v.1 X T L) (fun v => AV.bool v.2) := by
 have htn := hw.txns.1;have hgi := hw.groups gi (C2 hx);have hgl := (G2.1 hx).1;obtain ⟨lo, hlx⟩ := B3 (show g.toNat < w.Locks.length by rw [hw.locks.1]; omega);have hlo := hw.locks.2 lo (C2 hlx);have hlo60 := hlo.1;have hll := (G2.1 hlx).1;obtain ⟨kr, hko⟩ := Cu5 b w X T L g t k write gi hx h0 hgi.good hl;obtain ⟨W, hW⟩ : ∃ W, (Az8 lo [] ⟨k, t, write⟩ (AG3 lo ⟨k, t, write⟩)).2 = W := ⟨_, rfl⟩;obtain ⟨cd, hcd⟩ : ∃ cd, (Az8 lo [] ⟨k, t, write⟩ (AG3 lo ⟨k, t, write⟩)).1 = cd := ⟨_, rfl⟩;have hwm := ask_mem9 (x := ⟨k, t, write⟩) hlo;have hask := Ct5 lo [] ⟨k, t, write⟩ qz8;rw [hcd, hW] at hask;have hWl : W.length ≤ 60 := by rw [← hW]; exact L4 (ask_len9 (x := ⟨k, t, write⟩)) hlo60
 rw [hW] at hwm;refine C6 func343 rfl ntmps343 rfl ?_;refine R12 ?_;refine A1 rfl (AB0 [0, 0, 0, 0, 0, 0, 0] 0 (nwZ w T L) ([]) rfl call362 rfl rfl (o5) (hko) (A2 zA (A2 zA AJ2))) ?_;refine zC ?_ ?_
 ·intro h22;refine R5 ?_;exact G8 [0, 0, 0, 0, 0, 0, 0] 0 (nwZ w T L) ((w, false)) (qz43) rfl qz79 (N4 rfl (A8 rfl B8))
 intro h22;refine R8 ?_;intro b11;refine R10 ?_;refine B7 rfl rfl (I3 4 rfl U7 AA5 zA rfl zA qz8 CP7) ?_;refine B7 rfl rfl (AL8 4 rfl zA rfl isAgg96 (Bq0 (g := fun l => AV.list 3 (l.map H3.cs)) hlx)) ?_;refine R1 ?_;refine B7 rfl rfl (zG rfl call363 (hask) (A2 zA (A2 X1 I4))) ?_;refine zC ?_ ?_
 ·intro h41;have k41 := J3 h41;(try simp only [A7] at k41);refine R5 ?_;exact G8 [1, 1, 1, 1, 1, 1, 1] 1 (nwZ w T L) ((w, false)) (qz43) rfl qz79 (N4 rfl (A8 rfl B8))
 intro h41;have k41 := J0 h41;(try simp only [A7] at k41);refine R9 ?_;refine G6 qz126 ?_;refine zL [1, 1, 1, 1, 1, 1, 1] ?_;refine J5 [(0, _), (1, _), (2, _), (10, _), (11, _), (42, _), (43, _)] [] (fun (i : Nat) (v : D1) => i ≤ W.length ∧ WF w v) (fun i v => [.box b 245 [AV.int v.Now, AV.int v.Count, AV.is X.cl, strs v.Cuts, AV.is X.gr, AV.is X.lo, AV.is X.pr, AV.is X.tx, AV.is X.lk], .arr X.cl 101 1 (v.Clocks.map U4.cs), .arr X.gr 93 3 (v.Groups.map D0.cs), .arr X.lo 96 1 (v.Locks.map fun l => [AV.list 3 (l.map H3.cs)]), .arr X.pr 3 1 (v.Promised.map fun n => [AV.int n]), .arr X.tx 55 10 (J9 B5.ocs v.Txns T), .arr X.lk 73 6 (J9 B9.ocs v.Looks L), .box b11 146 (H3.mk k t write).cs] ++ (nwZ v T L)) (fun i v => [(44, AV.int i)]) (fun i v => W.length - i) (0) (w) ?_ (K5 (by (rw [S0]; rfl)) A4) ?_
 ·exact ⟨E2 _, WF.refl hw⟩
 intro i v hinv;refine G6 (S0 _) ?_;refine zK ?_ ?_
 ·intro h45 k45;have hlt : i < W.length := (by simpa using h45);obtain ⟨y, hy⟩ := B3 hlt;have hy1 := hwm y (C2 hy);have hTv : T.length = v.Txns.length := hT.trans hinv.2.ws.txns.symm;refine R5 ?_;refine A1 rfl (zX hy) ?_;refine R6 ?_;refine L3 [0, 0, 0, 0, 0, 0, 0] 1 7 (nwZ v T L) (fun zz => nwZ zz T L) rfl rfl rfl rfl call319 rfl rfl (BM3 b v X T L y hinv.2.wi hTv hy1) F4 (fun a => N3) ?_;intro x50 ok50;refine R5 ?_;refine G0 i v (i + 1) (x50) ?_ ?_ (K5 (Eq.trans B8 (S0 _).symm) A4)
  ·exact ⟨by omega, hinv.2.trans ok50⟩
  omega
 intro h45 k45;have hv := hinv.2;have hTv : T.length = v.Txns.length := hT.trans hv.ws.txns.symm;obtain ⟨tx, htx⟩ := B3 (show (t - 1).toNat < v.Txns.length by rw [hv.ws.txns]; exact ht.2);obtain ⟨z, hz⟩ := B3 (show (t - 1).toNat < T.length by omega);obtain ⟨n, hn⟩ := B3 (show g.toNat < tx.Terms.length by rw [(hv.wi.txns.2 tx (C2 htx)).terms, hv.gr]; exact hgl);have hnl := (G2.1 hn).1;obtain ⟨lv, hlx⟩ := B3 (show g.toNat < v.Locks.length by rw [hv.wi.locks.1, hv.gr]; exact hgl);have hll := (G2.1 hlx).1;have hlvo := hv.wi.locks.2 lv (C2 hlx);have hlv60 := hlvo.1;have hx : v.Groups[g.toNat]? = some gi := (by rw [hv.gr]; exact hx);have hgl := (G2.1 hx).1;refine R9 ?_;refine B7 rfl rfl (I3 3 rfl U7 AA5 zA rfl zA qz8 CP7) ?_;refine B7 rfl rfl (AL8 3 rfl zA rfl isAgg96 (Bq0 (g := fun l => AV.list 3 (l.map H3.cs)) hlx)) ?_;refine R1 ?_;refine B7 rfl rfl (zG rfl call364 (Cg7 lv ⟨k, t, write⟩ qz8) F4) ?_;refine zK ?_ ?_
 ·intro h64 k64;refine R5 ?_;exact G8 [0, 0, 0, 0, 0, 0, 0] 1 (nwZ v T L) ((v, false)) (qz43) rfl qz79 (N4 rfl (A8 rfl B8))
 intro h64 k64;refine R10 ?_;refine A1 rfl (I3 3 rfl U7 AA5 zA rfl zA qz8 CP7) ?_;refine AB5 3 rfl rfl rfl zA zA (m4 _ _) rfl AA5 rfl AL4 ?_;refine R2 ?_;refine G6 Ac5 ?_;refine AWP.le (S6 8 (t := ([Go.AV.Own.arr z.1 71 3 (tx.Got.map F9.cs), Go.AV.Own.arr z.2 3 1 (tx.Terms.map fun n => [AV.int n])]) ++ (nin B5.ow (v.Txns.eraseIdx (t - 1).toNat) (T.eraseIdx (t - 1).toNat) ++ nin B9.ow v.Looks L)) (AZ7 htx hz)) ?_;refine M6 21 E6 E6 rfl ?_;refine R7 ?_;refine B7 rfl rfl (I3 5 rfl N0 T5 zA rfl zA qz8 CP7) ?_;refine B7 rfl rfl (L5 5 rfl M1 rfl Ad1 zA rfl rfl qz88) ?_;refine B7 rfl rfl (N5 5 rfl zA rfl isAgg28 qz88 rfl) ?_;refine R7 ?_;refine B7 rfl rfl (I3 2 rfl H8 E7 zA rfl zA qz8 CP7) ?_;refine B7 rfl rfl (L5 2 rfl Z0 rfl F2 zA rfl rfl qz5) ?_;refine B7 rfl rfl (N5 2 rfl zA rfl Q4 qz5 rfl) ?_;refine B7 rfl rfl (I3 9 rfl H7 F2 zA rfl zA qz8 CP7) ?_;refine R1 ?_;refine AB5 9 rfl rfl rfl zA zA (W9 _ _) rfl F2 rfl AL4 ?_;refine R2 ?_;refine G6 Ac5 ?_;refine zL [0, 0, 0, 0, 0, 0, 0, 0, 0, 0] ?_;refine AWP.le (S6 8 (t := nin B5.ow (v.Txns.set (t - 1).toNat (AL0 tx g.toNat gi.Term)) T ++ nin B9.ow v.Looks L) ((by have h9 := CL7 (w := v) (L := L) (p' := AL0 tx g.toNat gi.Term) (y' := z) htx hz; rw [BZ6 hz] at h9; unfold B5.ow AL0 at h9 ⊢; dsimp only at h9; rw [AJ6] at h9; exact h9))) ?_;refine R4 ?_;exact G8 [0, 0, 0, 0, 0, 0, 0] 1 (nin B5.ow (v.Txns.set (t - 1).toNat (AL0 tx g.toNat gi.Term)) T ++ nin B9.ow v.Looks L) ((AO0 (An2 v g.toNat (AO5 lv ⟨k, t, write⟩)) (t - 1).toNat (AL0 tx g.toNat gi.Term), true)) (qz43) rfl qz79 (N4 rfl (A8 rfl B8))
end Go.PQ
namespace Go.PQ
open Go.Proofs
open Go Go.AV Go.M
attribute [local irreducible] OpW OpA OpS AWP K6 L8 K8 OpE K7 I7 L1 Le Ev G4 M7 j0 Int.tmod IntKind.wrap T3
theorem AQ7 (l : List A5) (w : A5) (hl : l.length ≤ 4194303) (ha : adj T9 l = true) : E1 167 [AV.list 3 (l.map A5.cs), AV.agg w.cs] (AV.list 3 ((ins l w).map A5.cs)) := by
  rw [← CY3 ha];exact N1 (CI9 l w hl) fun v _ => K3 (X9.2 rfl) F6
end Go.PQ
namespace Go.PQ
open Go.Proofs Go.Proofs.Tryz
open Go Go.AV Go.M
attribute [local irreducible] OpW OpA OpS AWP K6 L8 K8 OpE K7 I7 L1 Le Ev G4 M7 j0 Int.tmod Int.tdiv IntKind.wrap T3
theorem Bj5 (buf : List A5) (got : List F9) (k : Str) : E1 165 [AV.list 3 (buf.map A5.cs), AV.list 3 (got.map F9.cs), AV.str k] (AV.tup [AV.str (C4 buf got k).1, AV.bool (C4 buf got k).2.1, AV.bool (C4 buf got k).2.2]) := by
 refine B2 func165 rfl ntmps165 rfl ?_;refine m2 (t := 0) rfl fun hlb => ?_;try simp only [A7] at hlb
 refine m2 (t := 1) rfl fun hlg => ?_;try simp only [A7] at hlg
 refine zq149 ?_;refine R11 ?_;refine F8 [(1, _), (2, _), (13, _), (14, _)] _ (fun (i : Nat) => i ≤ buf.length ∧ buf.find? (fun w => w.Key == k) = (buf.drop i).find? (fun w => w.Key == k)) (fun i => []) (fun i => [(15, AV.int i)]) (fun i => buf.length - i) (0) ?_ (H0 A4) ?_
 ·exact zq8
 intro i hinv;refine zK ?_ ?_
 ·intro h16 k16;have hlt : i < buf.length := BI0;obtain ⟨x, hx⟩ := B3 hlt;refine zq0 ?_;intro b10;refine zC ?_ ?_
  ·intro h22;have he : C4 buf got k = (x.Val, !x.Gone, true) := (by unfold C4; rw [hinv.2, Af4 hx, D3 h22]);rw [he];refine R12 ?_;exact zq159
  intro h22;refine R5 ?_;refine G5 i (i + 1) ?_ ?_ (S4 1 A4)
  ·exact ⟨by omega, by rw [hinv.2, Af4 hx, C5 (by rw [h22]; decide)]⟩
  omega
 intro h16 k16;have hge : buf.length ≤ i := BI0;have hnb : buf.find? (fun w => w.Key == k) = none := BQ6;refine R9 ?_;refine F8 [(2, _), (29, _), (30, _)] _ (fun (j : Nat) => j ≤ got.length ∧ got.find? (fun g => g.Key == k) = (got.drop j).find? (fun g => g.Key == k)) (fun j => []) (fun j => [(31, AV.int j)]) (fun j => got.length - j) (0) ?_ (H0 A4) ?_
 ·exact zq8
 intro j hinv;refine zK ?_ ?_
 ·intro h32 k32;have hlt1 : j < got.length := (by simpa using h32);obtain ⟨y, hy⟩ := B3 hlt1;refine zq106 ?_;intro b12;refine zC ?_ ?_
  ·intro h38;have he : C4 buf got k = (y.Val, y.There, true) := (by unfold C4; rw [hnb, hinv.2, Af4 hy, D3 h38]);rw [he];refine R11 ?_;exact zq159
  intro h38;refine R5 ?_;refine G5 j (j + 1) ?_ ?_ (S4 1 A4)
  ·exact ⟨by omega, by rw [hinv.2, Af4 hy, C5 (by rw [h38]; decide)]⟩
  omega
 intro h32 k32;have hge1 : got.length ≤ j := (by simpa using h32);have he : C4 buf got k = ([], false, false) := (by unfold C4; rw [hnb, hinv.2, n5 hge1]; rfl);rw [he];refine R3 ?_;refine zq3 ?_;refine R4 ?_;exact zq159
theorem Bq2 (o : TOp) (val : Str) (there : Bool) (hv : val.length ≤ 1048576) (hb : -1000000 ≤ o.By ∧ o.By ≤ 1000000) : E1 166 [AV.agg o.cs, AV.str val, AV.bool there] (AV.bool (y7 o val there)) := by
 have hr := Cc8 val;refine B2 func166 rfl ntmps166 rfl ?_;refine R3 ?_;intro b3;refine R5 ?_;refine zF rfl call168 (BW5 val hv) I4 ?_;refine zC ?_ ?_
 ·intro h16;have k16 := J3 h16;(try simp only [A7] at k16);have he : y7 o val there = (if there = true then !(l5N val).2 || !within ((l5N val).1 + o.By) (-999999) 999999 else false) := (by unfold y7; rw [D3 k16]);rw [he];refine zC ?_ ?_
  ·intro h19;rw [C5 (by rw [show there = false by simpa using h19]; decide)];exact zq63
  intro h19;rw [D3 (show there = true by simpa using h19)];refine R10 ?_;refine T6 rfl (fun hc => zG rfl call71 (Q0 _ _ _) (A2 (A9 rfl hc) AP3)) ?_;exact zq63
 intro h16;have k16 := J0 h16;(try simp only [A7] at k16);refine zC ?_ ?_
 ·intro h30;have k30 := J3 h30;(try simp only [A7] at k30);have he : y7 o val there = ((!there || !(l5N val).2) || decide ((l5N val).1 < o.By)) := (by unfold y7; rw [C5 k16, D3 k30]);rw [he];refine R17 ?_;exact zq5
 intro h30;have k30 := J0 h30;(try simp only [A7] at k30);refine zC ?_ ?_
 ·intro h44;have k44 := J3 h44;(try simp only [A7] at k44);have he : y7 o val there = there := (by unfold y7; rw [C5 k16, C5 k30, D3 k44]);rw [he];exact zq151
 intro h44;have k44 := J0 h44;(try simp only [A7] at k44);refine zC ?_ ?_
 ·intro h47;have k47 := J3 h47;(try simp only [A7] at k47);have he : y7 o val there = (!there || (val != o.Val)) := (by unfold y7; rw [C5 k16, C5 k30, C5 k44, D3 k47]);rw [he];refine R13 ?_;exact zq5
 intro h47;have k47 := J0 h47;(try simp only [A7] at k47);have he : y7 o val there = false := (by unfold y7; rw [C5 k16, C5 k30, C5 k44, C5 k47]);rw [he];exact zq151
theorem Ay5 (n : Int) (h : -999999 ≤ n ∧ n ≤ 999999) : E1 169 [AV.int n] (AV.str (Z6 n)) := by
 refine B2 func169 rfl ntmps169 rfl ?_;refine zq149 ?_;refine zK ?_ ?_
 ·intro h4 k4;obtain ⟨m, hm⟩ : ∃ m : Nat, n = -(m : Int) := ⟨n.natAbs, by omega⟩;subst hm;have hdl := At8 (k := 6) (n := m) qz8 D4;have hneg : IntKind.i64.wrap (0 - -(m : Int)) = (m : Int) := by (rw [show 0 - -(m : Int) = m by omega]; exact BU2 qz8)
  rw [Ax4 qz8];refine R3 ?_;refine A1 rfl (w_neg rfl zA) ?_;rw [hneg];refine zF rfl call35 (Bg1 m qz8) I4 ?_;refine A1 rfl (u4 rfl (J1 (l := [45]) rfl) zA AD9) ?_;refine R3 ?_;exact zq5
 intro h4 k4;obtain ⟨m, hm⟩ : ∃ m : Nat, n = (m : Int) := ⟨n.toNat, by omega⟩;subst hm;rw [At9];refine R4 ?_;refine zF rfl call35 (Bg1 m qz8) I4 ?_;refine R3 ?_;exact zq5
theorem DC2 (l : List TOp) (got : List F9) (hl : l.length ≤ 1000) (ho : ∀ o ∈ l, Aj0 1000 o) (hgot : ∀ g ∈ got, g.size ≤ 1000) : E1 124 [AV.list 4 (l.map TOp.cs), AV.list 3 (got.map F9.cs)] (AV.tup [AV.int (Q2 l got).1, AV.str (Q2 l got).2.1, AV.list 3 ((Q2 l got).2.2.map A5.cs)]) := by
 refine B2 func124 rfl ntmps124 rfl ?_;refine zq174 ?_;refine R3 ?_;refine zq35 ?_;refine R9 ?_;refine J5 [(1, _), (15, _), (16, _)] _ (fun (i : Nat) (buf : List A5) => i ≤ l.length ∧ Q2 l got = e8 got buf (l.drop i) ∧ adj T9 buf = true ∧ (∀ w ∈ buf, w.size ≤ 1000) ∧ buf.length ≤ i) (fun i buf => []) (fun i buf => [(7, AV.list 3 (buf.map A5.cs)), (17, AV.int i)]) (fun i buf => l.length - i) (0) ([]) ?_ (H0 A4) ?_
 ·exact ⟨E2 _, rfl, rfl, fun w hw => absurd hw List.not_mem_nil, N2 _⟩
 intro i buf hinv;refine zK ?_ ?_
 ·intro h18 k18;have hlt : i < l.length := BQ2;obtain ⟨x, hx⟩ := B3 hlt;have hso := ho x (C2 hx);have hsv := BW6 (k := x.Key) hinv.2.2.2.1 hgot;refine zq0 ?_;intro b9;refine R8 ?_;refine zF rfl call165 (Bj5 buf got x.Key) AJ2 ?_;refine zC ?_ ?_
  ·intro h41;have he : Q2 l got = (1, x.Key, []) := qz176;rw [he];refine R6 ?_;refine B7 rfl rfl (E3 rfl (X1 (sz := 3))) ?_;refine R2 ?_;exact zq159
  intro h41;refine R7 ?_;refine zF rfl call166 (Bq2 x _ _ qz8 (by have h9 := hso.by'; omega)) (A2 (A0 rfl) (A2 (A0 rfl) (A2 (A0 rfl) B0))) ?_;refine zC ?_ ?_
  ·intro h47;have he : Q2 l got = (2, [], []) := qz143;rw [he];refine zq174 ?_;refine R2 ?_;exact zq159
  intro h47;have hgv : y7 x (C4 buf got x.Key).1 (C4 buf got x.Key).2.1 = false := h47;have hnx : Q2 l got = e8 got (U1 x (C4 buf got x.Key).1 (C4 buf got x.Key).2.1 buf) (l.drop (i + 1)) := qz128;refine zC ?_ ?_
  ·intro h50;have k50 := J3 h50;(try simp only [A7] at k50);have hop : U1 x (C4 buf got x.Key).1 (C4 buf got x.Key).2.1 buf = ins buf ⟨x.Key, x.Val, false⟩ := (by unfold U1; rw [D3 k50]);refine R7 ?_;refine zF rfl call167 (AQ7 buf ⟨x.Key, x.Val, false⟩ qz8 hinv.2.2.1) F4 ?_;refine R6 ?_;refine G0 i buf (i + 1) (U1 x (C4 buf got x.Key).1 (C4 buf got x.Key).2.1 buf) ?_ ?_ (S4 1 ⟨BC8, rfl, rfl, rfl, rfl, trivial⟩)
   ·exact ⟨by omega, hnx, AF4 hinv.2.2.1, AF6 hso.size D4 hso.by' (.inl hso.key) hgv hinv.2.2.2.1, by have h9 := AF5 (o := x) (v := (C4 buf got x.Key).1) (t := (C4 buf got x.Key).2.1) (buf := buf); omega⟩
   omega
  intro h50;have k50 := J0 h50;(try simp only [A7] at k50);refine zC ?_ ?_
  ·intro h59;have k59 := J3 h59;(try simp only [A7] at k59);have hop : U1 x (C4 buf got x.Key).1 (C4 buf got x.Key).2.1 buf = ins buf ⟨x.Key, [], true⟩ := (by unfold U1; rw [C5 k50, D3 k59]);refine R5 ?_;refine zF rfl call167 (AQ7 buf ⟨x.Key, [], true⟩ qz8 hinv.2.2.1) F4 ?_;refine R6 ?_;refine G0 i buf (i + 1) (U1 x (C4 buf got x.Key).1 (C4 buf got x.Key).2.1 buf) ?_ ?_ (S4 1 ⟨BC8, rfl, rfl, rfl, rfl, trivial⟩)
   ·exact ⟨by omega, hnx, AF4 hinv.2.2.1, AF6 hso.size D4 hso.by' (.inl hso.key) hgv hinv.2.2.2.1, by have h9 := AF5 (o := x) (v := (C4 buf got x.Key).1) (t := (C4 buf got x.Key).2.1) (buf := buf); omega⟩
   omega
  intro h59;have k59 := J0 h59;(try simp only [A7] at k59);refine zC ?_ ?_
  ·intro h66;have k66 := J3 h66;(try simp only [A7] at k66);have har := Ax5 k66 hso.by' hgv;refine R3 ?_;refine zF rfl call168 (BW5 _ qz8) (A2 (A0 rfl) B0) ?_;refine zC ?_ ?_
   ·intro h74;have hth : (C4 buf got x.Key).2.1 = false := (by simpa using h74);have hadd : BP7 x (C4 buf got x.Key).1 (C4 buf got x.Key).2.1 = 0 + x.By := Ci4;rw [hadd] at har;have hop : U1 x (C4 buf got x.Key).1 (C4 buf got x.Key).2.1 buf = ins buf ⟨x.Key, Z6 (0 + x.By), false⟩ := Cj2;refine R11 ?_;refine zq15 ?_;refine G0 i buf (i + 1) (U1 x (C4 buf got x.Key).1 (C4 buf got x.Key).2.1 buf) ?_ ?_ (S4 1 ⟨BC8, rfl, rfl, rfl, rfl, trivial⟩)
    ·exact ⟨by omega, hnx, AF4 hinv.2.2.1, AF6 hso.size D4 hso.by' (.inl hso.key) hgv hinv.2.2.2.1, by have h9 := AF5 (o := x) (v := (C4 buf got x.Key).1) (t := (C4 buf got x.Key).2.1) (buf := buf); omega⟩
    omega
   intro h74;have hth : (C4 buf got x.Key).2.1 = true := (by simpa using h74);have hadd : BP7 x (C4 buf got x.Key).1 (C4 buf got x.Key).2.1 = (l5N (C4 buf got x.Key).1).1 + x.By := Ci4;rw [hadd] at har;have hop : U1 x (C4 buf got x.Key).1 (C4 buf got x.Key).2.1 buf = ins buf ⟨x.Key, Z6 ((l5N (C4 buf got x.Key).1).1 + x.By), false⟩ := Cj2;refine R9 ?_;refine zq15 ?_;refine G0 i buf (i + 1) (U1 x (C4 buf got x.Key).1 (C4 buf got x.Key).2.1 buf) ?_ ?_ (S4 1 ⟨BC8, rfl, rfl, rfl, rfl, trivial⟩)
   ·exact ⟨by omega, hnx, AF4 hinv.2.2.1, AF6 hso.size D4 hso.by' (.inl hso.key) hgv hinv.2.2.2.1, by have h9 := AF5 (o := x) (v := (C4 buf got x.Key).1) (t := (C4 buf got x.Key).2.1) (buf := buf); omega⟩
   omega
  intro h66;have k66 := J0 h66;(try simp only [A7] at k66);have hop : U1 x (C4 buf got x.Key).1 (C4 buf got x.Key).2.1 buf = buf := (by unfold U1; rw [C5 k50, C5 k59, C5 k66]);refine R5 ?_;refine G0 i buf (i + 1) (U1 x (C4 buf got x.Key).1 (C4 buf got x.Key).2.1 buf) ?_ ?_ (S4 1 ⟨BC8, rfl, rfl, rfl, rfl, trivial⟩)
  ·exact ⟨by omega, hnx, AF4 hinv.2.2.1, AF6 hso.size D4 hso.by' (.inl hso.key) hgv hinv.2.2.2.1, by have h9 := AF5 (o := x) (v := (C4 buf got x.Key).1) (t := (C4 buf got x.Key).2.1) (buf := buf); omega⟩
  omega
 intro h18 k18;have hge : l.length ≤ i := BQ2;have he : Q2 l got = (3, [], buf) := (by rw [hinv.2.1, n5 hge]; rfl);rw [he];refine R5 ?_;refine zq3 ?_;refine R3 ?_;exact zq159
theorem BW7 (l : List TOp) (v : Value) (got : List F9) (hl : l.length ≤ 1000) (ho : ∀ o ∈ l, Aj0 1000 o) (hgot : ∀ g ∈ got, g.size ≤ 1000) : L7 124 [AV.list 4 (l.map TOp.cs), AV.is v] [.arr v 71 3 (got.map F9.cs)] (fun _ : Unit => True) (fun _ => [.arr v 71 3 (got.map F9.cs)]) (fun _ => AV.tup [AV.int (Q2 l got).1, AV.str (Q2 l got).2.1, AV.list 3 ((Q2 l got).2.2.map A5.cs)]) := by
 refine C6 func124 rfl ntmps124 rfl ?_;refine zq174 ?_;refine R3 ?_;refine zq35 ?_;refine R9 ?_;refine J5 [(1, _), (15, _), (16, _)] _ (fun (i : Nat) (buf : List A5) => i ≤ l.length ∧ Q2 l got = e8 got buf (l.drop i) ∧ adj T9 buf = true ∧ (∀ w ∈ buf, w.size ≤ 1000) ∧ buf.length ≤ i) (fun i buf => []) (fun i buf => [(7, AV.list 3 (buf.map A5.cs)), (17, AV.int i)]) (fun i buf => l.length - i) (0) ([]) ?_ (H0 A4) ?_
 ·exact ⟨E2 _, rfl, rfl, fun w hw => absurd hw List.not_mem_nil, N2 _⟩
 intro i buf hinv;refine zK ?_ ?_
 ·intro h18 k18;have hlt : i < l.length := BQ2;obtain ⟨x, hx⟩ := B3 hlt;have hso := ho x (C2 hx);have hsv := BW6 (k := x.Key) hinv.2.2.2.1 hgot;refine zq0 ?_;intro b9;refine R8 ?_;refine A1 rfl (m5 rfl call165 rfl (Bj5 buf got x.Key) (Aa8 (I6 (AA8 _) (I6 (U2 _) (I6 (U2 _) V6)))) (O6 (evb zA) (O6 (Au7 1 zA rfl) Aw3))) ?_;refine zC ?_ ?_
  ·intro h41;have he : Q2 l got = (1, x.Key, []) := qz176;rw [he];refine R6 ?_;refine B7 rfl rfl (E3 rfl (X1 (sz := 3))) ?_;refine R2 ?_;exact I5 [1] () (trivial) rfl B8 (j9 rfl D4 AW4)
  intro h41;refine R7 ?_;refine zF rfl call166 (Bq2 x _ _ qz8 (by have h9 := hso.by'; omega)) (A2 (A0 rfl) (A2 (A0 rfl) (A2 (A0 rfl) B0))) ?_;refine zC ?_ ?_
  ·intro h47;have he : Q2 l got = (2, [], []) := qz143;rw [he];refine zq174 ?_;refine R2 ?_;exact I5 [1] () (trivial) rfl B8 (j9 rfl D4 AW4)
  intro h47;have hgv : y7 x (C4 buf got x.Key).1 (C4 buf got x.Key).2.1 = false := h47;have hnx : Q2 l got = e8 got (U1 x (C4 buf got x.Key).1 (C4 buf got x.Key).2.1 buf) (l.drop (i + 1)) := qz128;refine zC ?_ ?_
  ·intro h50;have k50 := J3 h50;(try simp only [A7] at k50);have hop : U1 x (C4 buf got x.Key).1 (C4 buf got x.Key).2.1 buf = ins buf ⟨x.Key, x.Val, false⟩ := (by unfold U1; rw [D3 k50]);refine R7 ?_;refine zF rfl call167 (AQ7 buf ⟨x.Key, x.Val, false⟩ qz8 hinv.2.2.1) F4 ?_;refine R6 ?_;refine G0 i buf (i + 1) (U1 x (C4 buf got x.Key).1 (C4 buf got x.Key).2.1 buf) ?_ ?_ (S4 1 ⟨BC8, rfl, rfl, rfl, rfl, trivial⟩)
   ·exact ⟨by omega, hnx, AF4 hinv.2.2.1, AF6 hso.size D4 hso.by' (.inl hso.key) hgv hinv.2.2.2.1, by have h9 := AF5 (o := x) (v := (C4 buf got x.Key).1) (t := (C4 buf got x.Key).2.1) (buf := buf); omega⟩
   omega
  intro h50;have k50 := J0 h50;(try simp only [A7] at k50);refine zC ?_ ?_
  ·intro h59;have k59 := J3 h59;(try simp only [A7] at k59);have hop : U1 x (C4 buf got x.Key).1 (C4 buf got x.Key).2.1 buf = ins buf ⟨x.Key, [], true⟩ := (by unfold U1; rw [C5 k50, D3 k59]);refine R5 ?_;refine zF rfl call167 (AQ7 buf ⟨x.Key, [], true⟩ qz8 hinv.2.2.1) F4 ?_;refine R6 ?_;refine G0 i buf (i + 1) (U1 x (C4 buf got x.Key).1 (C4 buf got x.Key).2.1 buf) ?_ ?_ (S4 1 ⟨BC8, rfl, rfl, rfl, rfl, trivial⟩)
   ·exact ⟨by omega, hnx, AF4 hinv.2.2.1, AF6 hso.size D4 hso.by' (.inl hso.key) hgv hinv.2.2.2.1, by have h9 := AF5 (o := x) (v := (C4 buf got x.Key).1) (t := (C4 buf got x.Key).2.1) (buf := buf); omega⟩
   omega
  intro h59;have k59 := J0 h59;(try simp only [A7] at k59);refine zC ?_ ?_
  ·intro h66;have k66 := J3 h66;(try simp only [A7] at k66);have har := Ax5 k66 hso.by' hgv;refine R3 ?_;refine zF rfl call168 (BW5 _ qz8) (A2 (A0 rfl) B0) ?_;refine zC ?_ ?_
   ·intro h74;have hth : (C4 buf got x.Key).2.1 = false := (by simpa using h74);have hadd : BP7 x (C4 buf got x.Key).1 (C4 buf got x.Key).2.1 = 0 + x.By := Ci4;rw [hadd] at har;have hop : U1 x (C4 buf got x.Key).1 (C4 buf got x.Key).2.1 buf = ins buf ⟨x.Key, Z6 (0 + x.By), false⟩ := Cj2;refine R11 ?_;refine zq15 ?_;refine G0 i buf (i + 1) (U1 x (C4 buf got x.Key).1 (C4 buf got x.Key).2.1 buf) ?_ ?_ (S4 1 ⟨BC8, rfl, rfl, rfl, rfl, trivial⟩)
    ·exact ⟨by omega, hnx, AF4 hinv.2.2.1, AF6 hso.size D4 hso.by' (.inl hso.key) hgv hinv.2.2.2.1, by have h9 := AF5 (o := x) (v := (C4 buf got x.Key).1) (t := (C4 buf got x.Key).2.1) (buf := buf); omega⟩
    omega
   intro h74;have hth : (C4 buf got x.Key).2.1 = true := (by simpa using h74);have hadd : BP7 x (C4 buf got x.Key).1 (C4 buf got x.Key).2.1 = (l5N (C4 buf got x.Key).1).1 + x.By := Ci4;rw [hadd] at har;have hop : U1 x (C4 buf got x.Key).1 (C4 buf got x.Key).2.1 buf = ins buf ⟨x.Key, Z6 ((l5N (C4 buf got x.Key).1).1 + x.By), false⟩ := Cj2;refine R9 ?_;refine zq15 ?_;refine G0 i buf (i + 1) (U1 x (C4 buf got x.Key).1 (C4 buf got x.Key).2.1 buf) ?_ ?_ (S4 1 ⟨BC8, rfl, rfl, rfl, rfl, trivial⟩)
   ·exact ⟨by omega, hnx, AF4 hinv.2.2.1, AF6 hso.size D4 hso.by' (.inl hso.key) hgv hinv.2.2.2.1, by have h9 := AF5 (o := x) (v := (C4 buf got x.Key).1) (t := (C4 buf got x.Key).2.1) (buf := buf); omega⟩
   omega
  intro h66;have k66 := J0 h66;(try simp only [A7] at k66);have hop : U1 x (C4 buf got x.Key).1 (C4 buf got x.Key).2.1 buf = buf := (by unfold U1; rw [C5 k50, C5 k59, C5 k66]);refine R5 ?_;refine G0 i buf (i + 1) (U1 x (C4 buf got x.Key).1 (C4 buf got x.Key).2.1 buf) ?_ ?_ (S4 1 ⟨BC8, rfl, rfl, rfl, rfl, trivial⟩)
  ·exact ⟨by omega, hnx, AF4 hinv.2.2.1, AF6 hso.size D4 hso.by' (.inl hso.key) hgv hinv.2.2.2.1, by have h9 := AF5 (o := x) (v := (C4 buf got x.Key).1) (t := (C4 buf got x.Key).2.1) (buf := buf); omega⟩
  omega
 intro h18 k18;have hge : l.length ≤ i := BQ2;have he : Q2 l got = (3, [], buf) := (by rw [hinv.2.1, n5 hge]; rfl);rw [he];refine R5 ?_;refine zq3 ?_;refine R3 ?_;exact I5 [0] () (trivial) rfl B8 (j9 rfl D4 AW4)
theorem DC3 (rows : List A5) (k : Str) : E1 178 [AV.list 3 (rows.map A5.cs), AV.str k] (AV.agg (BX1 rows k).cs) := by
 refine B2 func178 rfl ntmps178 rfl ?_;refine m2 (t := 0) rfl fun hlb => ?_;try simp only [A7] at hlb
 refine R3 ?_;intro b4;refine R9 ?_;refine F8 [(1, _), (4, _), (7, _), (8, _)] _ (fun (i : Nat) => i ≤ rows.length ∧ lookW rows k = (rows.drop i).find? (fun w => w.Key == k)) (fun i => []) (fun i => [(9, AV.int i)]) (fun i => rows.length - i) (0) ?_ (H0 A4) ?_
 ·exact zq8
 intro i hinv;refine zK ?_ ?_
 ·intro h10 k10;have hlt : i < rows.length := Ab9;obtain ⟨x, hx⟩ := B3 hlt;refine zq0 ?_;intro b6;refine zC ?_ ?_
  ·intro h16;have he : BX1 rows k = ⟨k, x.Val, true⟩ := (by unfold BX1; rw [hinv.2, Af4 hx, D3 h16]);rw [he];refine R9 ?_;exact D5 rfl (F5 (ys := _) 1 rfl rfl isAgg71 S2 rfl)
  intro h16;refine R5 ?_;refine G5 i (i + 1) ?_ ?_ (S4 1 A4)
  ·exact ⟨by omega, by rw [hinv.2, Af4 hx, C5 (by rw [h16]; decide)]⟩
  omega
 intro h10 k10;have hge : rows.length ≤ i := Ab9;have he : BX1 rows k = ⟨k, [], false⟩ := (by unfold BX1; rw [hinv.2, n5 hge]; rfl);rw [he];refine R8 ?_;exact D5 rfl (F5 (ys := _) 0 rfl rfl isAgg71 S2 rfl)
end Go.PQ
namespace Go.PQ
open Go.Proofs
open Go Go.AV Go.M
attribute [local irreducible] OpW OpA OpS AWP K6 L8 K8 OpE K7 I7 L1 Le Ev G4 M7 j0 Int.tmod IntKind.wrap T3
structure DealB (d : BT0) : Prop where
  cuts : ∀ k ∈ d.Cuts, k.length ≤ 4611686018427387904
  clen : d.Cuts.length ≤ 1000000
  slen : d.States.length ≤ 10
  olen : d.Orders.length ≤ 1000000
  states : ∀ s ∈ d.States, s.size ≤ 100000
  orders : ∀ o ∈ d.Orders, o.size ≤ 300000
theorem w_natc {P : Program} {G : Nat → Prop} {n : Nat} {own : List Go.AV.Own} {o : Oper} {E : O8} {a : Int} (b : Nat) (h : OpW P G n own o E (AV.int a)) (e : a = (b : Int)) : OpW P G n own o E (AV.int (b : Int)) := e ▸ h
end Go.PQ
namespace Go.PQ
open Go.Proofs Go.Proofs.Tryz
open Go Go.AV Go.M
structure DV (d : BT0) : Prop where
  clen : d.Cuts.length ≤ 2
  ckey : ∀ k ∈ d.Cuts, k.length ≤ 64
  slen : d.States.length = d.Cuts.length + 1
  st : ∀ s ∈ d.States, s.size ≤ 15000
  os : ∀ o ∈ d.Orders, orderR o = true ∧ o.size ≤ 1000
  olen : d.Orders.length ≤ 4
attribute [local irreducible] OpW OpA OpS AWP K6 L8 K8 OpE K7 I7 L1 Le Ev G4 M7 j0 Int.tmod IntKind.wrap T3
theorem DP1 (cuts rs : List Str) (ws : List A5) (part : Int) (hr : rs.length ≤ 1000000) (hw : ws.length ≤ 1000000) : L7 365 [strs cuts, strs rs, AV.list 3 (ws.map A5.cs), AV.int part] [] (fun _ : Value × Value => True) (fun v => [.arr v.1 9 1 ((rs.filter (inS cuts part)).map fun t => [AV.str t]), .arr v.2 82 3 ((ws.filter fun w => inS cuts part w.Key).map A5.cs)]) (fun v => AV.tup [AV.is v.1, AV.is v.2]) := by
 have hrl : ∀ i, ((rs.take i).filter (inS cuts part)).length ≤ 1000000 := fun i => L4 (List.length_filter_le _ _) Br9;have hwl : ∀ i, ((ws.take i).filter fun w => inS cuts part w.Key).length ≤ 1000000 := fun i => L4 (List.length_filter_le _ _) Br9;refine C6 func365 rfl ntmps365 rfl ?_;refine zq48 ?_;refine zq7 ?_;refine R3 ?_;refine V0 9 1 rfl rfl rfl rfl I2 ?_;intro v10;refine R3 ?_;refine V0 82 3 rfl rfl rfl rfl I2 ?_;intro v11;refine R9 ?_;refine zL [1, 0] ?_;refine J5 [(0, _), (2, _), (3, _), (8, _), (9, _), (11, _), (16, _), (17, _)] _ (fun (i : Nat) (v : Value) => i ≤ rs.length) (fun i v => [.arr v 9 1 (((rs.take i).filter (inS cuts part)).map fun t => [AV.str t]), .arr v11 82 3 []]) (fun i v => [(10, AV.is v), (18, AV.int i)]) (fun i v => rs.length - i) (0) (v10) ?_ (K5 B8 A4) ?_
 ·exact E2 _
 intro i v hinv;refine zK ?_ ?_
 ·intro h19 k19;have hlt : i < rs.length := by (simpa using h19)
  obtain ⟨x, hx⟩ := B3 hlt;have hri := hrl i;refine zq83 ?_;refine R7 ?_;refine zF rfl call172 (Am4 _ _) F4 ?_;refine zC ?_ ?_
  ·intro h26;refine R4 ?_;refine G1 (by' := 16) 0 rfl rfl rfl rfl F0 type9 rfl rfl rfl rfl rfl rfl zA zA rfl qz3 ?_;intro v30_1;refine R6 ?_;refine G0 i v (i + 1) (v30_1) ?_ ?_ (Le.trans (B4 [0, 0] rfl) (K5 qz124 A4))
   ·exact qz8
   omega
  intro h26;refine R5 ?_;refine G0 i v (i + 1) (v) ?_ ?_ (Le.trans (B4 [0, 0] rfl) (K5 qz124 A4))
  ·exact qz8
  omega
 intro h19 k19;have hge : rs.length ≤ i := by (simpa using h19)
 rw [T4 hge];refine R9 ?_;refine zL [1, 0] ?_;refine J5 [(0, _), (3, _), (8, _), (9, _), (10, _), (32, _), (33, _)] _ (fun (j : Nat) (u : Value) => j ≤ ws.length) (fun j u => [.arr u 82 3 (((ws.take j).filter fun w => inS cuts part w.Key).map A5.cs), .arr v 9 1 ((rs.filter (inS cuts part)).map fun t => [AV.str t])]) (fun j u => [(11, AV.is u), (34, AV.int j)]) (fun j u => ws.length - j) (0) (v11) ?_ (K5 B8 A4) ?_
 ·exact E2 _
 intro j u hinv;refine zK ?_ ?_
 ·intro h35 k35;have hltj : j < ws.length := by (simpa using h35)
  obtain ⟨y, hy⟩ := B3 hltj;have hwj := hwl j;refine zq106 ?_;intro b15;refine R7 ?_;refine zF rfl call172 (Am4 _ _) F4 ?_;refine zC ?_ ?_
  ·intro h43;refine R4 ?_;refine G1 (by' := 40) 1 rfl rfl rfl rfl F3 type82 rfl rfl rfl rfl rfl rfl zA zA rfl qz3 ?_;intro v47_2;refine R6 ?_;refine G0 j u (j + 1) (v47_2) ?_ ?_ (Le.trans (B4 [0, 0, 0] rfl) (C7 1 qz120 A4))
   ·exact qz8
   omega
  intro h43;refine R5 ?_;refine G0 j u (j + 1) (u) ?_ ?_ (Le.trans (B4 [0, 0, 0] rfl) (C7 1 qz120 A4))
  ·exact qz8
  omega
 intro h35 k35;have hgej : ws.length ≤ j := by (simpa using h35)
 rw [T4 hgej];refine R9 ?_;exact I5 [1, 0] (v, u) (trivial) rfl B8 AL5
theorem DP2 (cuts rs : List Str) (ws : List A5) (part : Int) (hr : rs.length ≤ 1000000) (hw : ws.length ≤ 1000000) : E1 365 [strs cuts, strs rs, AV.list 3 (ws.map A5.cs), AV.int part] (AV.tup [strs (rs.filter (inS cuts part)), AV.list 3 ((ws.filter fun w => inS cuts part w.Key).map A5.cs)]) :=
  N1 (DP1 cuts rs ws part hr hw) fun v _ => AV2 (C1 (K3 (C2 (i := 0) rfl) F6) (C1 (K3 (C2 (i := 1) rfl) F6) Y2))
end Go.PQ
namespace Go.PQ
open Go.Proofs Go.Proofs.Tryz
open Go Go.AV Go.M
attribute [local irreducible] OpW OpA OpS AWP K6 L8 K8 OpE K7 I7 L1 Le Ev G4 M7 j0 Int.tmod Int.tdiv IntKind.wrap T3
theorem Cd4 (cuts : List Str) (t : B5) (y : Value × Value) (hb : SetB t) : L7 74 [strs cuts, AV.agg (B5.ocs t y)] (B5.ow t y) (fun _ : Unit => True) (fun _ => B5.ow t y) (fun _ => AV.tup [strs (y8 t.Got), AV.list 3 ((Q2 t.Ops t.Got).2.2.map A5.cs), ints (AW3 cuts t), AV.bool (Ar2 t)]) := by
 have hgl := hb.got.1;have hrl := BK2 t.Got;have hst := ran (got := t.Got) (n := 1000) D4 hb.ops;have hwl : (Q2 t.Ops t.Got).2.2.length ≤ 1000 := L4 hst.len (by have := hb.len; omega);obtain ⟨S, hS⟩ : ∃ S, Q2 t.Ops t.Got = S := ⟨_, rfl⟩;have hstep := BW7 t.Ops y.1 t.Got hb.len hb.ops hb.got.2;have hbq : Ar2 t = ((Q2 t.Ops t.Got).1 == 3 && decide (0 < ((((y8 t.Got).map fun t => [AV.str t]).length : Nat) : Int) + ((((Q2 t.Ops t.Got).2.2.map A5.cs).length : Nat) : Int))) := by unfold Ar2; simp only [A7]
 rw [hbq];unfold AW3;rw [hS] at hstep hwl ⊢;have hkl := BS0 (y8 t.Got ++ T8 S.2.2);rw [G3, show (T8 S.2.2).length = S.2.2.length from A7 ..] at hkl;refine C6 func74 rfl ntmps74 rfl ?_;refine R3 ?_;intro b3;refine zq7 ?_;refine zq7 ?_;refine zq7 ?_;refine R8 ?_;refine zI [1] rfl call124 (hstep) F4 rfl ?_;intro x19 ok19;refine R10 ?_;refine V0 9 1 rfl rfl rfl rfl I2 ?_;intro v11;refine R10 ?_;refine zL [0, 0] ?_;refine J5 [(0, _), (4, _), (5, _), (6, _), (7, _), (8, _), (10, _), (24, _), (25, _)] _ (fun (i : Nat) (v : Value) => i ≤ t.Got.length) (fun i v => [.arr v 9 1 ((y8 (t.Got.take i)).map fun t => [AV.str t]), .arr y.1 71 3 (t.Got.map F9.cs)]) (fun i v => [(11, AV.is v), (26, AV.int i)]) (fun i v => t.Got.length - i) (0) (v11) ?_ (K5 B8 A4) ?_
 ·exact E2 _
 intro i v hinv;refine zK ?_ ?_
 ·intro h27 k27;have hlt : i < t.Got.length := (by simpa using h27);obtain ⟨g, hg⟩ := B3 hlt;have hrs := CL3 (t.Got.take i);have hrn := BK2 (t.Got.take i);rw [H4] at hrn;refine R5 ?_;refine A1 rfl (I3 1 rfl I8 S2 zA rfl zA qz8 AF3) ?_;refine A1 rfl (w5 1 rfl zA rfl isAgg71 S2 qz97 D4) ?_;refine R1 ?_;intro b13;refine R6 ?_;refine zI [1] rfl call125 (Ag7 v (y8 (t.Got.take i)) g.Key hrs qz8) F4 rfl ?_;intro x33 ok33;refine R6 ?_;refine G0 i v (i + 1) (x33) ?_ ?_ (Le.trans (B4 [1, 0, 0] rfl) (C7 1 (by (rw [CL4 hg]; rfl)) A4))
  ·exact qz8
  omega
 intro h27 k27;have hge : t.Got.length ≤ i := (by simpa using h27);rw [T4 hge];refine R2 ?_;refine AWP.le (AL9 [0] 11 rfl rfl (K3 (C2 (i := 0) rfl) F6) (o6 0 rfl rfl (o6 2 rfl rfl N7))) ?_;refine zq137 ?_;exact I5 [0, 1] () (trivial) rfl B8 (j9 rfl D4 (I1 (A8 rfl B8) AW4))
theorem DP3 (b : Nat) (w : D1) (X : WX) (T : List (Value × Value)) (L : List Value) (t : Int) (told : G7) (lead : Int) (gi : D0) (hw : WI w) (hq : ∀ tx, w.Txns[(t - 1).toNat]? = some tx → 0 ≤ tx.Begin ∧ tx.Begin < w.Count) (hT : T.length = w.Txns.length) (ht : 1 ≤ t ∧ (t - 1).toNat < w.Txns.length) (h0 : 0 ≤ lead) (hx : w.Groups[lead.toNat]? = some gi) (hl : 0 ≤ gi.Lead) : L7 359 [AV.ptr b 0, AV.int t, AV.agg told.cs, AV.int lead] (WB b w X T L) (fun v : D1 × Bool => WF w v.1) (fun v => WB b v.1 X T L) (fun v => AV.bool v.2) := by
 have htn := hw.txns.1;obtain ⟨c, hc, hcg, hl3, hg2, hnow, hsl, hsh⟩ := Bg3 hw h0 hx hl;obtain ⟨tx, htx⟩ := B3 ht.2;obtain ⟨y, hy⟩ := B3 (show (t - 1).toNat < T.length by omega);have hls := BH5 b w X T L lead gi c hx qz8 qz8 hc hcg hnow;have hwf := wf_fin hw htx (hq tx htx) told;obtain ⟨W', hW⟩ : ∃ W', AO0 w (t - 1).toNat (CP0 tx told w.Count) = W' := ⟨_, rfl⟩;rw [hW] at hwf;have hfr := Bg2 b W' X T L t hwf.wi;refine C6 func359 rfl ntmps359 rfl ?_;refine R3 ?_;intro b6;refine R11 ?_;refine A1 rfl (I3 6 rfl N0 T5 zA rfl zA qz8 (by rw [U3 hT]; omega)) ?_;refine R12 ?_;refine S5 rfl (X0 rfl rfl rfl) (fun hc => AB0 [1, 1, 1, 1, 1, 1, 1] 1 (nwZ w T L) ([]) rfl call361 rfl rfl (o5) (hls) zS) ?_;refine S5 rfl (X0 rfl rfl rfl) (fun hc => CF4 rfl underlying276 rfl Q4 (A9 rfl hc) rfl) ?_;refine zC ?_ ?_
 ·intro h28;refine R5 ?_;exact G8 [1, 1, 1, 1, 1, 1, 1] 1 (nwZ w T L) ((w, false)) ((by first | exact WF.refl hw | exact hwf.trans (BE2 hwf.wi ok49))) rfl B8 M9
 intro h28;refine R6 ?_;refine zq111 ?_;refine Z7 6 rfl rfl rfl zA zA (AX3 _) rfl T7 qz2 rfl ?_;refine R6 ?_;refine zq147 ?_;refine R9 ?_;refine zq147 ?_;refine R2 ?_;refine G6 (show _ = Go.AV.Own.box b6 62 told.cs :: WB b W' X T L from (by rw [← hW]; unfold WB AO0; dsimp only; simp only [Bh0]; rw [AP7 htx hy, Am6 (p' := CP0 tx told w.Count) htx (fun _ => rfl)]; rfl)) ?_;refine R3 ?_;refine zq97 ?_;intro x49 ok49;refine R6 ?_;exact G8 [0, 0, 0, 0, 0, 0, 0] 1 (nin B5.ow W'.Txns T ++ nin B9.ow W'.Looks L) ((Aa5 W' x49, true)) ((by first | exact WF.refl hw | exact hwf.trans (BE2 hwf.wi ok49))) rfl B8 M9
theorem Cu7 (b : Nat) (w : D1) (X : WX) (T : List (Value × Value)) (L : List Value) (t lead : Int) (gi : D0) (hw : WI w) (hq : ∀ tx, w.Txns[(t - 1).toNat]? = some tx → 0 ≤ tx.Begin ∧ tx.Begin < w.Count) (hT : T.length = w.Txns.length) (ht : 1 ≤ t ∧ (t - 1).toNat < w.Txns.length) (h0 : 0 ≤ lead) (hx : w.Groups[lead.toNat]? = some gi) : L7 340 [AV.ptr b 0, AV.int t, AV.int lead] (WB b w X T L) (fun v : D1 × Bool × Bool => WF w v.1) (fun v => WB b v.1 X T L) (fun v => AV.tup [AV.bool v.2.1, AV.bool v.2.2]) := by
 have hgi := hw.groups gi (C2 hx);have hng := hw.n;have hgl := (G2.1 hx).1;refine C6 func340 rfl ntmps340 rfl ?_;refine R14 ?_;refine A1 rfl (I3 2 rfl H8 E7 zA rfl zA qz8 AF3) ?_;refine zq113 ?_;refine zC ?_ ?_
 ·intro h19;refine R6 ?_;exact G8 [0, 0, 0, 0, 0, 0, 0] 0 (nwZ w T L) ((w, false, false)) ((by first | exact WF.refl hw | exact ok34)) rfl B8 AL5
 intro h19;have hrd : AW0 gi = true := Br5;have hl := AP6 hrd;have hgs := Ar5 hgi.good hl;have htl := hgs.tlen;refine R5 ?_;refine A1 rfl (AB0 [0, 0, 0, 0, 0, 0, 0] 0 (nwZ w T L) ([]) rfl call290 rfl rfl (o5) (Av7 b w X T L lead gi hx h0 hgi.good hl) F4) ?_;refine R1 ?_;refine zF rfl call123 (AM1 (m9 gi) t qz8) F4 ?_;refine R4 ?_;intro b8;refine zC ?_ ?_
 ·intro h29;refine R6 ?_;exact G8 [1, 1, 1, 1, 1, 1, 1] 1 (nwZ w T L) ((w, false, false)) ((by first | exact WF.refl hw | exact ok34)) rfl B8 AL5
 intro h29;refine R7 ?_;refine L3 [1, 1, 1, 1, 1, 1, 1] 1 7 (nwZ w T L) (fun zz => nwZ zz.1 T L) rfl rfl rfl rfl call359 rfl rfl (DP3 b w X T L t _ lead gi hw hq hT ht h0 hx hl) (A2 zA AJ2) (fun a => N3) ?_;intro x34 ok34;refine R4 ?_;exact G8 [0, 0, 0, 0, 0, 0, 0] 1 (nwZ x34.1 T L) ((x34.1, x34.2, true)) ((by first | exact WF.refl hw | exact ok34)) rfl B8 AL5
theorem DP4 (b : Nat) (w : D1) (X : WX) (T : List (Value × Value)) (L : List Value) (t lead : Int) (yes : Bool) (times : List Int) (gi : D0) (hw : WI w) (h0 : 0 ≤ lead) (hx : w.Groups[lead.toNat]? = some gi) : L7 341 [AV.ptr b 0, AV.int t, AV.int lead, AV.bool yes, ints times] (WB b w X T L) (fun v : D0 × Bool => WG v.1) (fun v => WB b (m3 w lead.toNat v.1) X T L) (fun v => AV.bool v.2) := by
 have hgi := hw.groups gi (C2 hx);have hng := hw.n;have hgl := (G2.1 hx).1;refine C6 func341 rfl ntmps341 rfl ?_;refine R13 ?_;refine A1 rfl (I3 2 rfl H8 E7 zA rfl zA qz8 AF3) ?_;refine zq113 ?_;refine zC ?_ ?_
 ·intro h23;refine R5 ?_;exact G8 [0, 0, 0, 0, 0, 0, 0] 0 (nwZ w T L) ((gi, false)) (Bk1) rfl Bk3 M9
 intro h23;have hrd : AW0 gi = true := Br6;have hl := AP6 hrd;have hgs := AS3 hgi.good hl;have htl := hgs.tlen;obtain ⟨c, hc, hcg, hl3, hg2, hnow, hsl, hsh⟩ := Bg3 hw h0 hx hl;refine R6 ?_;refine A1 rfl (AB0 [0, 0, 0, 0, 0, 0, 0] 0 (nwZ w T L) ([]) rfl call239 rfl rfl (o5) (Af3 b w X T L lead gi hx h0 hgi.good hl) F4) ?_;refine R1 ?_;refine zF rfl call123 (AM1 (i0 gi) t qz8) F4 ?_;refine R4 ?_;intro b11;refine zC ?_ ?_
 ·intro h32;refine R4 ?_;refine L3 [1, 1, 1, 1, 1, 1, 1] 1 7 (nwZ w T L) (fun zz => nwZ w T L) rfl rfl rfl rfl call243 rfl rfl (Ao4 b w X T L lead gi hx h0 hgi) F4 (fun a => N3) ?_;intro x35 ok35;refine R6 ?_;exact G8 [0, 0, 0, 0, 0, 0, 0] 1 (nwZ w T L) ((x35, true)) (Bk1) rfl Bk3 M9
 intro h32;refine R6 ?_;intro b13;refine zC ?_ ?_
 ·intro h38;have hput := Ao5 b w X T L lead ⟨2, t, An5 ((AK9 c w.Now).High + 1) times, 0, [], [], true⟩ gi hx h0 hgi (show (0 : Nat) ≤ 1000 from by decide) (fun w9 hw9 => by cases hw9);refine R9 ?_;refine A1 rfl (AB0 [2, 2, 2, 2, 2, 2, 2] 2 (nwZ w T L) ([]) rfl call361 rfl rfl (o5) (BH5 b w X T L lead gi c hx qz8 qz8 hc hcg hnow) F4) ?_;refine zF rfl call360 (CU7 times (AK9 c w.Now) ⟨hsh, hsl⟩) F4 ?_;refine R8 ?_;refine zq128 ?_;intro x49 ok49;refine R3 ?_;exact G8 [0, 0, 0, 0, 0, 0, 0] 2 (nwZ w T L) ((x49.1, x49.2)) (Bk1) rfl Bk3 M9
 intro h38;have hput := Ao5 b w X T L lead ⟨2, t, 0, 0, [], [], false⟩ gi hx h0 hgi (show (0 : Nat) ≤ 1000 from by decide) (fun w9 hw9 => by cases hw9);refine R6 ?_;refine zq128 ?_;intro x49 ok49;refine R3 ?_;exact G8 [0, 0, 0, 0, 0, 0, 0] 2 (nwZ w T L) ((x49.1, x49.2)) (Bk1) rfl Bk3 M9
theorem Ao6 {α : Type} {a b c : List α} (e : a = b) (h : b.Perm c) : a.Perm c := e ▸ h
theorem read_own (b : Nat) (w : D1) (X : WX) (T : List (Value × Value)) (L : List Value) (t : Int) (k : Str) (hw : WI w) (hT : T.length = w.Txns.length) (ht : 1 ≤ t ∧ (t - 1).toNat < w.Txns.length) (hk : k.length ≤ 12) : L7 318 [AV.ptr b 0, AV.int t, AV.str k] (WB b w X T L) (fun v : (D1 × Bool) × List (Value × Value) => WF w v.1.1 ∧ v.2.length = T.length) (fun v => WB b v.1.1 X v.2 L) (fun v => AV.bool v.1.2) := by
 have hng := hw.n;have htn := hw.txns.1;obtain ⟨p, hp⟩ : ∃ p : Nat, AC7 w.Cuts k = p := ⟨_, rfl⟩;obtain ⟨gi, hx, hgl⟩ := CL6 hw k;rw [hp] at hx hgl;have hgi := hw.groups gi (C2 hx);obtain ⟨tx, htx⟩ := B3 ht.2;obtain ⟨y, hy⟩ := B3 (show (t - 1).toNat < T.length by omega);have htk := hw.txns.2 tx (C2 htx);obtain ⟨n, hn⟩ := B3 (show ((p : Nat) : Int).toNat < tx.Terms.length by rw [htk.terms]; omega);have hlate := Cc5 b w X T L (p : Int) t tx y n gi htx hy hT qz8 qz8 hn hx;have hpart : E1 172 [strs w.Cuts, AV.str k] (AV.int ((p : Nat) : Int)) := by rw [← hp]; exact Am4 w.Cuts k
 refine C6 func318 rfl ntmps318 rfl ?_;refine R12 ?_;refine zF rfl call172 (hpart) F4 ?_;refine R11 ?_;refine A1 rfl (I3 2 rfl H8 E7 zA rfl zA qz8 Aw0) ?_;refine zq113 ?_;refine zC ?_ ?_
 ·intro h26;refine R5 ?_;exact G8 [0, 0, 0, 0, 0, 0, 0] 0 (nwZ w T L) (((w, false), T)) (Bz6) rfl Bz2 M9
 intro h26;have hrd : AW0 gi = true := (by simpa using h26);have hl := AP6 hrd;refine R7 ?_;refine A1 rfl (AB0 [0, 0, 0, 0, 0, 0, 0] 0 (nwZ w T L) ([]) rfl call342 rfl rfl (o5) (hlate) AJ2) ?_;refine zC ?_ ?_
 ·intro h30;refine zq134 ?_;intro x33 ok33;refine R6 ?_;exact G8 [0, 0, 0, 0, 0, 0, 0] 0 (nwZ x33 T L) (((x33, true), T)) (Bz6) rfl Bz2 M9
 intro h30;refine R8 ?_;refine L3 [0, 0, 0, 0, 0, 0, 0] 0 7 (nwZ w T L) (fun zz => nwZ zz.1 T L) rfl rfl rfl rfl call343 rfl rfl (Cu6 b w X T L (p : Int) t k false gi hw hT ht qz8 hx hl hk) (A2 zA (A2 zA Ck6)) (fun a => N3) ?_;intro x38 ok38;refine zC ?_ ?_
 ·intro h39;refine R5 ?_;exact G8 [0, 0, 0, 0, 0, 0, 0] 0 (nwZ x38.1 T L) (((x38.1, false), T)) (Bz6) rfl Bz2 M9
 intro h39;have hx : x38.1.Groups[((p : Nat) : Int).toNat]? = some gi := (by rw [ok38.gr]; exact hx);have hT : T.length = x38.1.Txns.length := (hT.trans ok38.ws.txns.symm);obtain ⟨tx, htx⟩ := B3 (show (t - 1).toNat < x38.1.Txns.length by omega);have htk := ok38.wi.txns.2 tx (C2 htx);have hgs := Ar5 hgi.good hl;have hcs := Bm6 hgs.cells;have hcl := CL5 hgs.cells k 100000;refine R5 ?_;refine A1 rfl (AB0 [0, 0, 0, 0, 0, 0, 0] 0 (nwZ x38.1 T L) ([]) rfl call290 rfl rfl (o5) (Av7 b x38.1 X T L (p : Int) gi hx qz8 hgi.good hl) F4) ?_;refine A1 rfl (CF4 rfl AA9 rfl isAgg57 zA rfl) ?_;refine R1 ?_;refine zF rfl call291 (By8 (m9 gi).Cells k 100000 qz8) zS ?_;refine zC ?_ ?_
 ·intro h50;obtain ⟨G, hG⟩ : ∃ G : F9, G = ⟨k, [], (cellAt (m9 gi).Cells k 100000).2⟩ := ⟨_, rfl⟩;have hGs : G.size ≤ 64 := (by rw [hG]; unfold F9.size; simp only [Q8]; omega);refine R1 ?_;refine zq3 ?_;refine R3 ?_;refine G6 Ac5 ?_;refine zq25 ?_;refine zK ?_ ?_
  ·intro h62 k62;exact zq72
  intro h62 k62;refine R2 ?_;refine zq118 ?_;intro v85_1 _;refine R1 ?_;refine A1 rfl (I3 1 rfl N0 T5 zA rfl zA qz8 Aw0) ?_;refine A1 rfl (L5 1 rfl M1 rfl S3 zA rfl rfl qz2) ?_;refine O4 2 rfl fun one_v85_1 => ?_;refine Z7 1 rfl rfl rfl zA zA (L2 one_v85_1) rfl S3 qz2 rfl ?_;refine R2 ?_;refine G6 Ac5 ?_;refine zL [0, 0, 1, 1, 1, 1, 1, 0, 0] ?_;refine AWP.le (S6 7 (t := nin B5.ow (x38.1.Txns.set (t - 1).toNat (Ar3 tx G)) (T.set (t - 1).toNat (v85_1, y.2)) ++ nin B9.ow x38.1.Looks L) ((Ao6 (b := [Go.AV.Own.arr v85_1 71 3 ((tx.Got ++ [G]).map F9.cs), Go.AV.Own.arr y.2 3 1 (tx.Terms.map fun n => [AV.int n])] ++ (nin B5.ow (x38.1.Txns.eraseIdx (t - 1).toNat) (T.eraseIdx (t - 1).toNat) ++ nin B9.ow x38.1.Looks L)) (by subst hG; rw [X8]; rfl) (CL7 (w := x38.1) (L := L) (p' := Ar3 tx G) (y' := (v85_1, y.2)) htx hy)))) ?_;refine R4 ?_;exact G8 [0, 1, 1, 1, 1, 0, 0] 0 (nin B5.ow (x38.1.Txns.set (t - 1).toNat (Ar3 tx G)) (T.set (t - 1).toNat (v85_1, y.2)) ++ nin B9.ow x38.1.Looks L) (((AO0 x38.1 (t - 1).toNat (Ar3 tx G), true), T.set (t - 1).toNat (v85_1, y.2))) (Bz6) rfl Bz2 M9
 intro h50;obtain ⟨G, hG⟩ : ∃ G : F9, G = ⟨k, (cellAt (m9 gi).Cells k 100000).1, (cellAt (m9 gi).Cells k 100000).2⟩ := ⟨_, rfl⟩;have hGs : G.size ≤ 64 := (by rw [hG]; unfold F9.size; dsimp only; omega);refine R3 ?_;refine G6 Ac5 ?_;refine zq25 ?_;refine zK ?_ ?_
 ·intro h62 k62;exact zq72
 intro h62 k62;refine R2 ?_;refine zq118 ?_;intro v85_2 _;refine R1 ?_;refine A1 rfl (I3 1 rfl N0 T5 zA rfl zA qz8 Aw0) ?_;refine A1 rfl (L5 1 rfl M1 rfl S3 zA rfl rfl qz2) ?_;refine O4 2 rfl fun one_v85_2 => ?_;refine Z7 1 rfl rfl rfl zA zA (L2 one_v85_2) rfl S3 qz2 rfl ?_;refine R2 ?_;refine G6 Ac5 ?_;refine zL [0, 0, 1, 1, 1, 1, 1, 0, 0] ?_;refine AWP.le (S6 7 (t := nin B5.ow (x38.1.Txns.set (t - 1).toNat (Ar3 tx G)) (T.set (t - 1).toNat (v85_2, y.2)) ++ nin B9.ow x38.1.Looks L) ((Ao6 (b := [Go.AV.Own.arr v85_2 71 3 ((tx.Got ++ [G]).map F9.cs), Go.AV.Own.arr y.2 3 1 (tx.Terms.map fun n => [AV.int n])] ++ (nin B5.ow (x38.1.Txns.eraseIdx (t - 1).toNat) (T.eraseIdx (t - 1).toNat) ++ nin B9.ow x38.1.Looks L)) (by subst hG; rw [X8]; rfl) (CL7 (w := x38.1) (L := L) (p' := Ar3 tx G) (y' := (v85_2, y.2)) htx hy)))) ?_;refine R4 ?_;exact G8 [0, 1, 1, 1, 1, 0, 0] 0 (nin B5.ow (x38.1.Txns.set (t - 1).toNat (Ar3 tx G)) (T.set (t - 1).toNat (v85_2, y.2)) ++ nin B9.ow x38.1.Looks L) (((AO0 x38.1 (t - 1).toNat (Ar3 tx G), true), T.set (t - 1).toNat (v85_2, y.2))) (Bz6) rfl Bz2 M9
theorem DC4 (b : Nat) (w : D1) (X : WX) (T : List (Value × Value)) (L : List Value) (t p lead : Int) (reads : List Str) (writes : List A5) (gi : D0) (hw : WI w) (hT : T.length = w.Txns.length) (ht : 1 ≤ t ∧ (t - 1).toNat < w.Txns.length) (h0 : 0 ≤ p) (hx : w.Groups[p.toNat]? = some gi) (hz : C9 (fun s : Str => s.length) reads + C9 A5.size writes ≤ 1000) (hk : ∀ x ∈ writes, x.Key ∈ AD0) : L7 344 [AV.ptr b 0, AV.int t, AV.int p, AV.int lead, strs reads, AV.list 3 (writes.map A5.cs)] (WB b w X T L) (fun v : D1 × Bool => WI v.1 ∧ WS w v.1) (fun v => WB b v.1 X T L) (fun v => AV.bool v.2) := by
 have hng := hw.n;have htn := hw.txns.1;have hgi := hw.groups gi (C2 hx);have hgl := (G2.1 hx).1;obtain ⟨tx, htx⟩ := B3 ht.2;obtain ⟨y, hy⟩ := B3 (show (t - 1).toNat < T.length by omega);have htk := hw.txns.2 tx (C2 htx);obtain ⟨n, hn⟩ := B3 (show p.toNat < tx.Terms.length by rw [htk.terms]; omega);have hlate := Cc5 b w X T L p t tx y n gi htx hy hT qz8 h0 hn hx;have hrl := Ay4 (f := fun s : Str => s.length) (l := reads);have hwl := Ay4 (f := A5.size) (l := writes);obtain ⟨rs, hrs⟩ : ∃ rs, reads.filter (inS w.Cuts p) = rs := ⟨_, rfl⟩;obtain ⟨ws, hws⟩ : ∃ ws, (writes.filter fun w9 => inS w.Cuts p w9.Key) = ws := ⟨_, rfl⟩;have hsh := DP2 w.Cuts reads writes p qz8 qz8;have hsr := BO7 (f := fun s : Str => s.length) (p := inS w.Cuts p) (l := reads);have hsw := BO7 (f := A5.size) (p := fun w9 : A5 => inS w.Cuts p w9.Key) (l := writes);have hkw : ∀ x ∈ ws, x.Key ∈ AD0 := fun x hx9 => by rw [← hws] at hx9; exact hk x (List.mem_filter.1 hx9).1
 have hwsl : ws.length ≤ 1000 := by rw [← hws]; exact L4 (List.length_filter_le _ _) qz8
 rw [hrs, hws] at hsh;rw [hrs] at hsr;rw [hws] at hsw;refine C6 func344 rfl ntmps344 rfl ?_;refine R13 ?_;refine A1 rfl (I3 2 rfl H8 E7 zA rfl zA qz8 Bz4) ?_;refine A1 rfl (w5 2 rfl zA rfl P5 E7 qz32 D4) ?_;refine zF rfl call288 (AN8 gi hgi.good) I4 ?_;refine zC ?_ ?_
 ·intro h33;refine R5 ?_;exact G8 [0, 0, 0, 0, 0, 0, 0] 0 (nwZ w T L) ((w, false)) (Bb7) rfl Bb6 M9
 intro h33;have hrd : AW0 gi = true := (by simpa using h33);have hl := AP6 hrd;have hgs := AS3 hgi.good hl;have hfs := BB8 (AN6.2 hgs);have hft := hgs.tlen;have hfh := hgs.hlen;refine R5 ?_;refine A1 rfl (AB0 [0, 0, 0, 0, 0, 0, 0] 0 (nwZ w T L) ([]) rfl call239 rfl rfl (o5) (Af3 b w X T L p gi hx h0 hgi.good hl) F4) ?_;refine R1 ?_;intro b13;refine R7 ?_;refine zF rfl call123 (AM1 (i0 gi) t qz8) F4 ?_;refine R4 ?_;intro b14;refine R10 ?_;refine T6 rfl (fun hc => AB0 [2, 2, 2, 2, 2, 2, 2] 2 (nwZ w T L) ([]) rfl call342 rfl rfl (o5) (hlate) zS) ?_;refine zC ?_ ?_
 ·intro h49;refine R4 ?_;refine L3 [2, 2, 2, 2, 2, 2, 2] 2 7 (nwZ w T L) (fun zz => nwZ zz T L) rfl rfl rfl rfl call319 rfl rfl (BM3 b w X T L t hw hT qz8) F4 (fun a => N3) ?_;intro x52 ok52;refine R6 ?_;exact G8 [0, 0, 0, 0, 0, 0, 0] 2 (nwZ x52 T L) ((x52, true)) (Bb7) rfl Bb6 M9
 intro h49;refine R6 ?_;refine zF rfl call269 (Am3 (i0 gi) t qz8) F4 ?_;refine R4 ?_;intro b16;refine zC ?_ ?_
 ·intro h59;refine R4 ?_;refine L3 [3, 3, 3, 3, 3, 3, 3] 3 7 (nwZ w T L) (fun zz => nwZ w T L) rfl rfl rfl rfl call243 rfl rfl (Ao4 b w X T L p gi hx h0 hgi) F4 (fun a => N3) ?_;intro x62 ok62;refine R6 ?_;exact G8 [0, 0, 0, 0, 0, 0, 0] 3 (nwZ w T L) ((m3 w p.toNat x62, true)) (Bb7) rfl Bb6 M9
 intro h59;refine R11 ?_;refine zF rfl call365 (hsh) (A2 zA AJ2) ?_;refine R14 ?_;refine G6 qz126 ?_;refine zL [3, 3, 3, 3, 3, 3, 3, 0, 0, 0] ?_;refine J5 [(0, _), (1, _), (2, _), (3, _), (13, _), (18, _), (19, _), (75, _), (76, _)] [] (fun (i : Nat) (v : D1) => i ≤ ws.length ∧ WF w v) (fun i v => [.box b 245 [AV.int v.Now, AV.int v.Count, AV.is X.cl, strs v.Cuts, AV.is X.gr, AV.is X.lo, AV.is X.pr, AV.is X.tx, AV.is X.lk], .arr X.cl 101 1 (v.Clocks.map U4.cs), .arr X.gr 93 3 (v.Groups.map D0.cs), .arr X.lo 96 1 (v.Locks.map fun l => [AV.list 3 (l.map H3.cs)]), .arr X.pr 3 1 (v.Promised.map fun n => [AV.int n]), .arr X.tx 55 10 (J9 B5.ocs v.Txns T), .arr X.lk 73 6 (J9 B9.ocs v.Looks L), .box b16 256 (AS9 (i0 gi).Held t).1.cs, .box b14 62 (AG5 (i0 gi).Told t).1.cs, .box b13 60 (i0 gi).cs] ++ (nwZ v T L)) (fun i v => [(77, AV.int i)]) (fun i v => ws.length - i) (0) (w) ?_ (K5 (by (rw [S0]; rfl)) A4) ?_
 ·exact ⟨E2 _, WF.refl hw⟩
 intro i v hinv;refine G6 (S0 _) ?_;refine zK ?_ ?_
 ·intro h78 k78;have hlt : i < ws.length := (by simpa using h78);obtain ⟨x, hxx⟩ := B3 hlt;have hkx := (AZ3 (hkw x (C2 hxx))).2;have hTv : T.length = v.Txns.length := hT.trans hinv.2.ws.txns.symm;have hxv : v.Groups[p.toNat]? = some gi := (by rw [hinv.2.gr]; exact hx);have htv : (t - 1).toNat < v.Txns.length := qz8;refine R5 ?_;refine A1 rfl (zX hxx) ?_;refine R2 ?_;intro b21;refine R10 ?_;refine L3 [1, 1, 1, 1, 1, 1, 1] 4 7 (nwZ v T L) (fun zz => nwZ zz.1 T L) rfl rfl rfl rfl call343 rfl rfl (Cu6 b v X T L p t x.Key true gi hinv.2.wi hTv ⟨ht.1, htv⟩ h0 hxv hl qz8) (A2 zA (A2 zA Ck6)) (fun a => N3) ?_;intro x86 ok86;refine zC ?_ ?_
  ·intro h86;refine R5 ?_;refine G0 i v (i + 1) (x86.1) ?_ ?_ (Le.trans (B4 [7, 0, 0, 0, 0, 0, 0, 0, 0, 0, 0] rfl) (C7 1 (Eq.trans B8 (S0 _).symm) A4))
   ·exact ⟨by omega, hinv.2.trans ok86⟩
   omega
  intro h86;have hT : T.length = x86.1.Txns.length := hTv.trans ok86.ws.txns.symm;obtain ⟨tx, htx⟩ := B3 (show (t - 1).toNat < x86.1.Txns.length by omega);refine R11 ?_;refine A1 rfl (I3 5 rfl N0 T5 zA rfl zA qz8 Bz4) ?_;refine A1 rfl (L5 5 rfl M1 rfl T7 zA rfl rfl qz2) ?_;refine A1 rfl (N5 5 rfl zA rfl AE5 qz2 rfl) ?_;refine zC ?_ ?_
  ·intro h97;refine R5 ?_;exact G8 [0, 0, 0, 0, 0, 0, 0] 4 (nwZ x86.1 T L) ((x86.1, false)) (Bb7) rfl Bb6 M9
  intro h97;refine R5 ?_;refine L3 [0, 0, 0, 0, 0, 0, 0] 4 7 (nwZ x86.1 T L) (fun zz => nwZ zz T L) rfl rfl rfl rfl call319 rfl rfl (BM3 b x86.1 X T L t ok86.wi hT qz8) F4 (fun a => N3) ?_;intro x100 ok100;refine R6 ?_;exact G8 [0, 0, 0, 0, 0, 0, 0] 4 (nwZ x100 T L) ((x100, true)) (Bb7) rfl Bb6 M9
 intro h78 k78;have hv := hinv.2;have hT : T.length = v.Txns.length := hT.trans hv.ws.txns.symm;have hx : v.Groups[p.toNat]? = some gi := (by rw [hv.gr]; exact hx);have hgl := (G2.1 hx).1;obtain ⟨tx, htx⟩ := B3 (show (t - 1).toNat < v.Txns.length by omega);have htk := hv.wi.txns.2 tx (C2 htx);obtain ⟨pr, hpx⟩ := B3 (show p.toNat < v.Promised.length by rw [hv.wi.promised.1]; exact hgl);obtain ⟨n, hn⟩ := B3 (show p.toNat < tx.Terms.length by rw [htk.terms]; exact hgl);have hnl := (G2.1 hn).1;have hpl := (G2.1 hpx).1;refine R7 ?_;refine zF rfl call271 (CK1 (i0 gi) rs ws qz8 qz8) AJ2 ?_;refine zC ?_ ?_
 ·intro h106;refine R4 ?_;refine L3 [0, 0, 0, 0, 0, 0, 0] 3 7 (nwZ v T L) (fun zz => nwZ zz T L) rfl rfl rfl rfl call319 rfl rfl (BM3 b v X T L t hv.wi hT qz8) F4 (fun a => N3) ?_;intro x109 ok109;refine R6 ?_;exact G8 [0, 0, 0, 0, 0, 0, 0] 3 (nwZ x109 T L) ((x109, true)) (Bb7) rfl Bb6 M9
 intro h106;refine R10 ?_;refine B7 rfl rfl (I3 4 rfl H7 F2 zA rfl zA qz8 Bz4) ?_;refine B7 rfl rfl (AL8 4 rfl zA rfl Q4 (Bq0 (g := AV.int) hpx)) ?_;refine B7 rfl rfl (zG rfl call366 (Bv1 (i0 gi) pr qz8) F4) ?_;refine R20 ?_;refine Al3 rfl rfl (i5 rfl rfl rfl) ?_ ?_
 ·intro gh134;refine L3 [0, 0, 0, 0, 0, 0, 0] 3 7 (nwZ v T L) (fun zz => nwZ v T L) rfl rfl rfl rfl call237 rfl rfl (Ao5 b v X T L p ⟨1, t, (Bi1 (i0 gi) pr).1, lead, rs, ws, false⟩ gi hx h0 hgi (show C9 (fun x : Str => x.length) rs + C9 A5.size ws ≤ 1000 by omega) hkw) (A2 (A9 rfl gh134) (A2 (A9 rfl gh134) (A2 (A9 rfl gh134) B0))) (fun a => N3) ?_;intro x134 ok134;refine zC ?_ ?_
  ·intro h136;refine R5 ?_;exact G8 [0, 0, 0, 0, 0, 0, 0] 3 (nwZ v T L) ((m3 v p.toNat x134.1, false)) (Bb7) rfl Bb6 M9
  intro h136;refine R2 ?_;refine G6 qz86 ?_;refine R8 ?_;refine A1 rfl (I3 5 rfl N0 T5 zA rfl zA qz8 Bz4) ?_;refine A1 rfl (L5 5 rfl M1 rfl T7 zA rfl rfl qz2) ?_;refine Z7 5 rfl rfl rfl zA Af6 (AX3 _) rfl T7 qz2 rfl ?_;refine R2 ?_;refine G6 qz86 ?_;refine AWP.le (S6 10 (t := ([Go.AV.Own.arr y.1 71 3 (tx.Got.map F9.cs), Go.AV.Own.arr y.2 3 1 (tx.Terms.map fun n => [AV.int n])]) ++ (nin B5.ow (v.Txns.eraseIdx (t - 1).toNat) (T.eraseIdx (t - 1).toNat) ++ nin B9.ow v.Looks L)) (AZ7 htx hy)) ?_;refine M6 21 E6 E6 rfl ?_;refine R7 ?_;refine B7 rfl rfl (I3 5 rfl N0 T5 zA rfl zA qz8 Bz4) ?_;refine B7 rfl rfl (L5 5 rfl M1 rfl Ad1 zA rfl rfl qz2) ?_;refine B7 rfl rfl (N5 5 rfl zA rfl isAgg28 qz2 rfl) ?_;refine R7 ?_;refine B7 rfl rfl (I3 2 rfl H8 E7 zA rfl zA qz8 Bz4) ?_;refine B7 rfl rfl (L5 2 rfl Z0 rfl F2 zA rfl rfl qz32) ?_;refine B7 rfl rfl (N5 2 rfl zA rfl Q4 qz32 rfl) ?_;refine B7 rfl rfl (I3 11 rfl H7 F2 zA rfl zA qz8 Bz4) ?_;refine R1 ?_;refine AB5 11 rfl rfl rfl zA zA (W9 _ _) rfl F2 rfl qz3 ?_;refine R2 ?_;refine G6 qz86 ?_;refine zL [0, 0, 0, 0, 0, 0, 0, 0, 0, 0, 0, 0] ?_;refine AWP.le (S6 10 (t := nin B5.ow (v.Txns.set (t - 1).toNat (AL0 (BA5 tx) p.toNat x134.1.Term)) T ++ nin B9.ow v.Looks L) ((by have h9 := CL7 (w := v) (L := L) (p' := AL0 (BA5 tx) p.toNat x134.1.Term) (y' := y) htx hy; rw [BZ6 hy] at h9; unfold B5.ow AL0 BA5 at h9 ⊢; dsimp only at h9; rw [AJ6] at h9; exact h9))) ?_;refine R4 ?_;exact G8 [0, 0, 0, 0, 0, 0, 0] 3 (nin B5.ow (v.Txns.set (t - 1).toNat (AL0 (BA5 tx) p.toNat x134.1.Term)) T ++ nin B9.ow v.Looks L) ((AO0 (m3 v p.toNat x134.1) (t - 1).toNat (AL0 (BA5 tx) p.toNat x134.1.Term), true)) (Bb7) rfl Bb6 M9
 intro gh134;refine Al3 rfl rfl (i5 rfl rfl rfl) (fun hq => by rw [gh134] at hq; cases hq) (fun _ => ?_);refine A1 rfl (w_or rfl zA (Bt1 (x := AV.bool false) gh134)) ?_;refine zC ?_ ?_
 ·intro h136;refine R5 ?_;exact G8 [0, 0, 0, 0, 0, 0, 0] 3 (nwZ v T L) ((v, false)) (Bb7) rfl Bb6 M9
 intro h136
 (exfalso; have h9 := gh134; simp at h9 h136; rw [h9] at h136; cases h136)
theorem CU9 (u : Value) (l : List Int) (s : Az0) (hl : l.length ≤ 1000) (hs : s.High ≤ 1000000 ∧ -1000000 ≤ s.High) : L7 360 [AV.is u, AV.agg s.cs] [.arr u 3 1 (l.map fun n => [AV.int n])] (fun _ : Unit => True) (fun _ => [.arr u 3 1 (l.map fun n => [AV.int n])]) (fun _ => AV.int (An5 (s.High + 1) l)) := by
 refine C6 func360 rfl ntmps360 rfl ?_;refine R3 ?_;intro b3;refine R17 ?_;refine zL [1] ?_;refine J5 [(4, _), (11, _), (12, _)] _ (fun (i : Nat) (m : Int) => i ≤ l.length ∧ m = An5 (s.High + 1) (l.take i)) (fun i m => [.arr u 3 1 (l.map fun n => [AV.int n])]) (fun i m => [(5, AV.int m), (13, AV.int i)]) (fun i m => l.length - i) (0) (s.High + 1) ?_ (K5 B8 A4) ?_
 ·exact zq8
 intro i m hinv;refine zK ?_ ?_
 ·intro h14 k14;have hlt : i < l.length := Ba9;obtain ⟨x, hx⟩ := B3 hlt;refine R5 ?_;refine A1 rfl (I3 0 rfl H7 F2 zA rfl zA qz8 AF3) ?_;refine A1 rfl (AL8 0 rfl zA rfl Q4 (flat1 (g := AV.int) hx)) ?_;refine R5 ?_;refine zF rfl call211 (AG8 _ _) F4 ?_;refine R6 ?_;refine G0 i m (i + 1) (AA7 m x) ?_ ?_ (Le.trans (B4 [0] rfl) (K5 B8 A4))
  ·exact ⟨by omega, by rw [By6 hx, hinv.2]⟩
  omega
 intro h14 k14;have hge : l.length ≤ i := Ba9;rw [show m = An5 (s.High + 1) l from by rw [hinv.2, T4 hge]];refine R7 ?_;exact I5 [0] () (trivial) rfl B8 M9
theorem DC5 (u : Value) (b : Nat) (w : D1) (X : WX) (T : List (Value × Value)) (L : List Value) (t lead : Int) (yes : Bool) (times : List Int) (gi : D0) (htl9 : times.length ≤ 1000) (hw : WI w) (h0 : 0 ≤ lead) (hx : w.Groups[lead.toNat]? = some gi) : L7 341 [AV.ptr b 0, AV.int t, AV.int lead, AV.bool yes, AV.is u] (.arr u 3 1 (times.map fun n => [AV.int n]) :: WB b w X T L) (fun v : D0 × Bool => WG v.1) (fun v => .arr u 3 1 (times.map fun n => [AV.int n]) :: WB b (m3 w lead.toNat v.1) X T L) (fun v => AV.bool v.2) := by
 have hgi := hw.groups gi (C2 hx);have hng := hw.n;have hgl := (G2.1 hx).1;refine C6 func341 rfl ntmps341 rfl ?_;refine R13 ?_;refine A1 rfl (I3 3 rfl H8 E7 zA rfl zA qz8 AF3) ?_;refine A1 rfl (w5 3 rfl zA rfl P5 E7 qz5 D4) ?_;refine zF rfl call288 (AN8 gi hgi.good) I4 ?_;refine zC ?_ ?_
 ·intro h23;refine R5 ?_;exact G8 [0, 0, 0, 0, 0, 0, 0, 0] 0 (nwZ w T L) ((gi, false)) (Bk1) rfl Bk3 M9
 intro h23;have hrd : AW0 gi = true := Br6;have hl := AP6 hrd;have hgs := AS3 hgi.good hl;have htl := hgs.tlen;obtain ⟨c, hc, hcg, hl3, hg2, hnow, hsl, hsh⟩ := Bg3 hw h0 hx hl;refine R6 ?_;refine A1 rfl (AB0 [1, 1, 1, 1, 1, 1, 1] 1 (nwZ w T L) ([]) rfl call239 rfl rfl (o5) (Af3 b w X T L lead gi hx h0 hgi.good hl) F4) ?_;refine R1 ?_;refine zF rfl call123 (AM1 (i0 gi) t qz8) F4 ?_;refine R4 ?_;intro b11;refine zC ?_ ?_
 ·intro h32;refine R4 ?_;refine L3 [2, 2, 2, 2, 2, 2, 2] 2 7 (nwZ w T L) (fun zz => nwZ w T L) rfl rfl rfl rfl call243 rfl rfl (Ao4 b w X T L lead gi hx h0 hgi) F4 (fun a => N3) ?_;intro x35 ok35;refine R6 ?_;exact G8 [8, 0, 0, 0, 0, 0, 0, 0] 1 (nwZ w T L) ((x35, true)) (Bk1) rfl Bk3 M9
 intro h32;refine R6 ?_;intro b13;refine zC ?_ ?_
 ·intro h38;have hput := Ao5 b w X T L lead ⟨2, t, An5 ((AK9 c w.Now).High + 1) times, 0, [], [], true⟩ gi hx h0 hgi (show (0 : Nat) ≤ 1000 from by decide) (fun w9 hw9 => by cases hw9);refine R9 ?_;refine A1 rfl (AB0 [3, 3, 3, 3, 3, 3, 3] 3 (nwZ w T L) ([]) rfl call361 rfl rfl (o5) (BH5 b w X T L lead gi c hx qz8 qz8 hc hcg hnow) F4) ?_;refine zI [2] rfl call360 (CU9 u times (AK9 c w.Now) htl9 ⟨hsh, hsl⟩) F4 rfl ?_;intro x44 ok44;refine R8 ?_;refine zq127 ?_;intro x49 ok49;refine R3 ?_;exact G8 [7, 0, 0, 0, 0, 0, 0, 0] 2 (nwZ w T L) ((x49.1, x49.2)) (Bk1) rfl Bk3 M9
 intro h38;have hput := Ao5 b w X T L lead ⟨2, t, 0, 0, [], [], false⟩ gi hx h0 hgi (show (0 : Nat) ≤ 1000 from by decide) (fun w9 hw9 => by cases hw9);refine R6 ?_;refine zq127 ?_;intro x49 ok49;refine R3 ?_;exact G8 [9, 0, 0, 0, 0, 0, 0, 0] 2 (nwZ w T L) ((x49.1, x49.2)) (Bk1) rfl Bk3 M9
theorem DP5 (b : Nat) (w : D1) (X : WX) (T : List (Value × Value)) (L : List Value) (t : Int) (hw : WI w) (hq : ∀ tx, w.Txns[(t - 1).toNat]? = some tx → 0 ≤ tx.Begin ∧ tx.Begin < w.Count) (hT : T.length = w.Txns.length) (ht : 1 ≤ t ∧ (t - 1).toNat < w.Txns.length) : L7 320 [AV.ptr b 0, AV.int t] (WB b w X T L) (fun v : D1 × Bool => WI v.1 ∧ WS w v.1) (fun v => WB b v.1 X T L) (fun v => AV.bool v.2) := by
 have htn := hw.txns.1;obtain ⟨tx, htx⟩ := B3 ht.2;obtain ⟨y, hy⟩ := B3 (show (t - 1).toNat < T.length by omega);have htk := hw.txns.2 tx (C2 htx);have hz := htk.sizes;have hk := Bg4 (got := tx.Got) htk.ops.2;have hpl : (AW3 w.Cuts tx).length ≤ 1000 := by
  have h1 := CK4 w.Cuts (Ap2 (y8 tx.Got ++ T8 (Q2 tx.Ops tx.Got).2.2));have h2 := BS0 (y8 tx.Got ++ T8 (Q2 tx.Ops tx.Got).2.2);have h3 := Ay4 (f := fun s : Str => s.length) (l := y8 tx.Got);have h4 := Ay4 (f := A5.size) (l := (Q2 tx.Ops tx.Got).2.2);rw [G3, show (T8 (Q2 tx.Ops tx.Got).2.2).length = (Q2 tx.Ops tx.Got).2.2.length from A7 ..] at h2;unfold AW3;omega
 refine C6 func320 rfl ntmps320 rfl ?_;refine R5 ?_;refine zq9 ?_;refine O5 _ [(0, false), (1, false), (2, false), (3, false), (4, false), (5, false), (6, false), (7, false), (8, false), (9, false), (10, false), (11, false), (12, false), (13, false), (14, true), (15, false), (16, false), (17, false), (18, false), (19, false), (20, false), (21, false), (22, false)] E6 E6 rfl (S1 7) ?_;refine R12 ?_;refine P7 rfl rfl rfl (fun ext => I3 5 rfl N0 T5 zA rfl zA qz8 Aw0) ?_;refine zq110 ?_;intro x31 ok31;refine R13 ?_;refine zq102 ?_;refine G6 Ac5 ?_;refine zC ?_ ?_
 ·intro h37;refine R5 ?_;exact G8 [0, 0, 0, 0, 0, 0, 0] 0 (nwZ w T L) ((w, false)) (qz75) rfl B8 M9
 intro h37;have hso : Ar2 tx = true := (by simpa using h37);obtain ⟨p0, hp0⟩ := Cd1 (cuts := w.Cuts) hso;have hpr := CU8 (C2 hp0);obtain ⟨g0, hx0⟩ := CD0 hw hpr;refine zq71 ?_;intro x44 ok44;refine R7 ?_;refine G6 Ac5 ?_;refine zC ?_ ?_
 ·intro h47;refine R6 ?_;exact G8 [0, 0, 0, 0, 0, 0, 0] 0 (nwZ x44.1 T L) ((x44.1, x44.2.1)) (qz75) rfl B8 M9
 intro h47;refine R3 ?_;refine V0 3 1 rfl rfl rfl rfl I2 ?_;intro v11;refine R9 ?_;refine zL [0] ?_;refine V8 [(0, _), (1, _), (5, _), (6, _), (7, _), (49, _), (50, _)] _ (fun (i : Nat) (tm : List Int) (u : Value) => i ≤ (AW3 w.Cuts tx).length ∧ tm.length = i) (fun i tm u => [.arr u 3 1 (tm.map fun n => [AV.int n])]) (fun i tm u => [(11, AV.is u), (51, AV.int i)]) (fun i tm u => (AW3 w.Cuts tx).length - i) (0) ([]) (v11) ?_ (K5 B8 A4) ?_
 ·exact zq8
 intro i tm u hinv;refine zK ?_ ?_
 ·intro h52 k52;have hlt : i < (AW3 w.Cuts tx).length := (by simpa using h52);obtain ⟨p, hp⟩ := B3 hlt;have hpi := CU8 (C2 hp);obtain ⟨gp, hxp⟩ := CD0 ok44.wi (by rw [ok44.ws.cuts]; exact hpi);have hgp := ok44.wi.groups gp (C2 hxp);have hgpl := (G2.1 hxp).1;have hsh := (Av3 hgp.good).hlen;have hTv : T.length = x44.1.Txns.length := hT.trans ok44.ws.txns.symm;have htv : (t - 1).toNat < x44.1.Txns.length := qz8;refine R5 ?_;refine A1 rfl (zX hp) ?_;refine R11 ?_;refine A1 rfl (I3 3 rfl H8 E7 zA rfl zA qz8 Aw0) ?_;refine A1 rfl (w5 3 rfl zA rfl P5 E7 (by first | exact (O1 hxp) | exact B1 ((O1 hxp)) | exact B1 (B1 ((O1 hxp))) | exact B1 (B1 (B1 ((O1 hxp)))) | exact B1 (B1 (B1 (B1 ((O1 hxp))))) | exact B1 (B1 (B1 (B1 (B1 ((O1 hxp))))))) D4) ?_;refine zF rfl call122 (BO6 gp hgp.good) I4 ?_;refine R1 ?_;refine zF rfl call269 (Am3 (AV9 gp) t qz8) F4 ?_;refine R4 ?_;intro b14;refine zC ?_ ?_
  ·intro h70;refine R6 ?_;refine A1 rfl (C8 rfl H7 F2 zA J4 hp0 qz3) ?_;refine R3 ?_;refine L3 [2, 2, 2, 2, 2, 2, 2] 2 7 (nwZ x44.1 T L) (fun zz => nwZ zz.1 T L) rfl rfl rfl rfl call344 rfl rfl (DC4 b x44.1 X T L t p p0 (y8 tx.Got) (Q2 tx.Ops tx.Got).2.2 gp ok44.wi hTv ⟨ht.1, htv⟩ hpi.1 hxp hz hk) (A2 zA (A2 zA (A2 zA AJ2))) (fun a => N3) ?_;intro x79 ok79;refine R3 ?_;exact G8 [0, 0, 0, 0, 0, 0, 0] 2 (nwZ x79.1 T L) ((x79.1, x79.2)) (qz75) rfl B8 M9
  intro h70;refine R6 ?_;refine G1 (by' := 8) 1 rfl rfl rfl rfl H7 type3 rfl rfl rfl rfl rfl rfl zA zA rfl Aa6 ?_;intro v84_1;refine R6 ?_;refine P6 i tm u (i + 1) (tm ++ [(AS9 (AV9 gp).Held t).1.Time]) (v84_1) ?_ ?_ (Le.trans (B4 [0, 0] rfl) (C7 1 Ar4 A4))
  ·exact ⟨by omega, by rw [G3, hinv.2]; rfl⟩
  omega
 intro h52 k52;refine R2 ?_;refine G6 Ac5 ?_;refine R4 ?_;refine A1 rfl (C8 rfl H7 F2 zA J4 hp0 qz3) ?_;refine R2 ?_;refine L3 [0, 0, 0, 0, 0, 0, 0, 0] 0 8 (nwZ x44.1 T L) (fun zz => nwZ x44.1 T L) rfl rfl rfl rfl call341 rfl rfl (DC5 u b x44.1 X T L t p0 true tm g0 qz8 ok44.wi hpr.1 (by rw [ok44.gr]; exact hx0)) (A2 zA (A2 zA (A2 zA (A2 Af6 I4)))) (fun a => N3) ?_;intro x92 ok92;refine R3 ?_;exact G8 [1, 1, 1, 1, 1, 1, 1] 1 (nwZ x44.1 T L) ((m3 x44.1 p0.toNat x92.1, x92.2)) (qz75) rfl B8 M9
theorem dead_own (b : Nat) (w : D1) (X : WX) (T : List (Value × Value)) (L : List Value) (t : Int) (hw : WI w) (hq : ∀ tx, w.Txns[(t - 1).toNat]? = some tx → 0 ≤ tx.Begin ∧ tx.Begin < w.Count) (hT : T.length = w.Txns.length) (ht : 1 ≤ t ∧ (t - 1).toNat < w.Txns.length) : L7 317 [AV.ptr b 0, AV.int t] (WB b w X T L) (fun v : D1 × Bool => WI v.1 ∧ WS w v.1) (fun v => WB b v.1 X T L) (fun v => AV.bool v.2) := by
 have htn := hw.txns.1;obtain ⟨tx, htx⟩ := B3 ht.2;obtain ⟨y, hy⟩ := B3 (show (t - 1).toNat < T.length by omega);have htk := hw.txns.2 tx (C2 htx);have hwf := wf_end hw htx (hq tx htx);obtain ⟨W', hW⟩ : ∃ W', AO0 w (t - 1).toNat (CP1 tx w.Count) = W' := ⟨_, rfl⟩;rw [hW] at hwf;have hfr := Bg2 b W' X T L t hwf.wi;refine C6 func317 rfl ntmps317 rfl ?_;refine R13 ?_;refine A1 rfl (I3 5 rfl N0 T5 zA rfl zA qz8 Aw0) ?_;refine R6 ?_;refine zq56 ?_;refine zC ?_ ?_
 ·intro h24;refine R8 ?_;refine zq65 ?_;refine Z7 5 rfl rfl rfl zA zA (W9 _ _) rfl F2 qz2 rfl ?_;refine R2 ?_;refine G6 (show _ = WB b W' X T L from (by rw [← hW]; unfold WB AO0; dsimp only; rw [AP7 htx hy, Am6 (p' := CP1 tx w.Count) htx (fun _ => rfl)]; rfl)) ?_;refine R3 ?_;refine zq30 ?_;intro x35 ok35;refine R6 ?_;exact G8 [0, 0, 0, 0, 0, 0, 0] 0 (nin B5.ow W'.Txns T ++ nin B9.ow W'.Looks L) ((Aa5 W' x35, true)) (qz68) rfl B8 M9
 intro h24;refine R2 ?_;refine zq9 ?_;refine O5 _ [(0, false), (1, false), (2, false), (3, false), (4, false), (5, false), (6, false), (7, false), (8, true), (9, false), (10, false), (11, false), (12, false), (13, false), (14, false), (15, false), (16, false)] E6 E6 rfl (S1 7) ?_;refine R6 ?_;refine P7 rfl rfl rfl (fun ext => i9 5 rfl zA rfl qz2 rfl) ?_;refine zq110 ?_;intro x45 ok45;refine R13 ?_;refine zq102 ?_;refine G6 Ac5 ?_;refine zC ?_ ?_
 ·intro h51;refine R5 ?_;exact G8 [0, 0, 0, 0, 0, 0, 0] 0 (nwZ w T L) ((w, false)) (qz68) rfl B8 M9
 intro h51;have hso : Ar2 tx = true := (by simpa using h51);obtain ⟨p0, hp0⟩ := Cd1 (cuts := w.Cuts) hso;have hpr := CU8 (C2 hp0);obtain ⟨g0, hx0⟩ := CD0 hw hpr;refine zq71 ?_;intro x58 ok58;refine R7 ?_;refine G6 Ac5 ?_;refine zC ?_ ?_
 ·intro h61;refine R6 ?_;exact G8 [0, 0, 0, 0, 0, 0, 0] 0 (nwZ x58.1 T L) ((x58.1, x58.2.1)) (qz68) rfl B8 M9
 intro h61;refine R6 ?_;refine A1 rfl (C8 rfl H7 F2 zA J4 hp0 qz3) ?_;refine R1 ?_;refine L3 [0, 0, 0, 0, 0, 0, 0] 0 7 (nwZ x58.1 T L) (fun zz => nwZ x58.1 T L) rfl rfl rfl rfl call341 rfl rfl (DP4 b x58.1 X T L t p0 false [] g0 ok58.wi hpr.1 (by rw [ok58.gr]; exact hx0)) (A2 zA (A2 zA (A2 zA (A2 Af6 (A2 X1 B0))))) (fun a => N3) ?_;intro x68 ok68;refine R3 ?_;exact G8 [0, 0, 0, 0, 0, 0, 0] 0 (nwZ x58.1 T L) ((m3 x58.1 p0.toNat x68.1, x68.2)) (qz68) rfl B8 M9
theorem Cu8 (b : Nat) (w : D1) (X : WX) (T : List (Value × Value)) (L : List Value) (g t : Int) (gi : D0) (hw : WI w) (h0 : 0 ≤ g) (hx : w.Groups[g.toNat]? = some gi) : L7 321 [AV.ptr b 0, AV.int g, AV.int t] (WB b w X T L) (fun v : D1 × Bool => WI v.1 ∧ WS w v.1) (fun v => WB b v.1 X T L) (fun v => AV.bool v.2) := by
 have hng := hw.n;have hgi := hw.groups gi (C2 hx);have hgl := (G2.1 hx).1;refine C6 func321 rfl ntmps321 rfl ?_;refine R13 ?_;refine A1 rfl (I3 2 rfl H8 E7 zA rfl zA Aj1 (by first | (simp only [A7]; omega) | (simp at hc ⊢; omega))) ?_;refine A1 rfl (w5 2 rfl zA rfl P5 E7 qz105 D4) ?_;refine zF rfl call288 (AN8 gi hgi.good) I4 ?_;refine zC ?_ ?_
 ·intro h22;refine R5 ?_;exact G8 [0, 0, 0, 0, 0, 0, 0] 0 (nwZ w T L) ((w, false)) (CQ3) rfl B8 M9
 intro h22;have hrd : AW0 gi = true := BI1;have hl := AP6 hrd;have hgs := AS3 hgi.good hl;have hhl := hgs.hlen;have hhs := Am3 (i0 gi) t qz8;have hld := DO9 hgs t;obtain ⟨H, hH⟩ : ∃ H, AS9 (i0 gi).Held t = H := ⟨_, rfl⟩;rw [hH] at hhs hld;obtain ⟨gl, hgx⟩ : ∃ gl : D0, H.1.Lead.toNat < w.Groups.length → w.Groups[H.1.Lead.toNat]? = some gl := ⟨(w.Groups[H.1.Lead.toNat]?).getD gi, fun h9 => by rw [P2 h9]; rfl⟩;refine R5 ?_;refine A1 rfl (AB0 [0, 0, 0, 0, 0, 0, 0] 0 (nwZ w T L) ([]) rfl call239 rfl rfl (o5) (Af3 b w X T L g gi hx h0 hgi.good hl) F4) ?_;refine R1 ?_;refine zF rfl call269 (hhs) F4 ?_;refine R4 ?_;intro b7;refine R5 ?_;refine G6 Ac5 ?_;refine R22 ?_;refine S5 rfl (i5 rfl rfl rfl) (fun hc => I3 3 rfl H8 E7 (A9 rfl hc) rfl (A9 rfl hc) Aj1 (by first | (simp only [A7]; omega) | (simp at hc ⊢; omega))) ?_;refine S5 rfl (i5 rfl rfl rfl) (fun hc => w5 3 rfl (A9 rfl hc) rfl P5 E7 qz105 D4) ?_;refine S5 rfl (i5 rfl rfl rfl) (fun hc => zG rfl call288 (AN8 gl (hw.groups gl (C2 (hgx (by simp at hc; omega)))).good) zS) ?_;refine zC ?_ ?_
 ·intro h56;refine R5 ?_;exact G8 [1, 1, 1, 1, 1, 1, 1] 1 (nwZ w T L) ((w, false)) (CQ3) rfl B8 M9
 intro h56;have hfa : H.2 = true ∧ H.1.Lead.toNat < w.Groups.length ∧ AW0 gl = true := (by simp at h56; exact ⟨h56.1.1, by omega, h56.2⟩);have hxl := hgx hfa.2.1;have hgg := hw.groups gl (C2 hxl);have hll := AP6 hfa.2.2;have hsl := Ar5 hgg.good hll;have hfl := AS3 hgg.good hll;have hst := hsl.tlen;have hft := hfl.tlen;have hput := Ao5 b w X T L g ⟨2, t, 0, 0, [], [], false⟩ gi hx h0 hgi (show (0 : Nat) ≤ 1000 from by decide) (fun w9 hw9 => by cases hw9);have hput2 := Ao5 b w X T L g ⟨3, t, (AG5 (m9 gl).Told t).1.Time, 0, [], [], (AG5 (m9 gl).Told t).1.Yes⟩ gi hx h0 hgi (show (0 : Nat) ≤ 1000 from by decide) (fun w9 hw9 => by cases hw9);have hput3 := Ao5 b w X T L H.1.Lead ⟨2, t, 0, 0, [], [], false⟩ gl hxl hld.1 hgg (show (0 : Nat) ≤ 1000 from by decide) (fun w9 hw9 => by cases hw9);refine zC ?_ ?_
 ·intro h60;refine R6 ?_;refine L3 [1, 1, 1, 1, 1, 1, 1] 1 7 (nwZ w T L) (fun zz => nwZ w T L) rfl rfl rfl rfl call237 rfl rfl (hput) (A2 zA (A2 zA (A2 (AY5 zA Av8) B0))) (fun a => N3) ?_;intro x65 ok65;refine R3 ?_;exact G8 [0, 0, 0, 0, 0, 0, 0] 1 (nwZ w T L) ((m3 w g.toNat x65.1, x65.2)) (CQ3) rfl B8 M9
 intro h60;refine R7 ?_;refine A1 rfl (AB0 [1, 1, 1, 1, 1, 1, 1] 1 (nwZ w T L) ([]) rfl call290 rfl rfl (o5) (Av7 b w X T L H.1.Lead gl hxl hld.1 hgg.good hll) F4) ?_;refine R1 ?_;refine zF rfl call123 (AM1 (m9 gl) t qz8) F4 ?_;refine R4 ?_;intro b9;refine R4 ?_;refine G6 Ac5 ?_;refine zC ?_ ?_
 ·intro h75;refine R10 ?_;refine L3 [2, 2, 2, 2, 2, 2, 2] 2 7 (nwZ w T L) (fun zz => nwZ w T L) rfl rfl rfl rfl call237 rfl rfl (hput2) (A2 zA (A2 zA (A2 (AY5 zA Av8) B0))) (fun a => N3) ?_;intro x84 ok84;refine R3 ?_;exact G8 [0, 0, 0, 0, 0, 0, 0] 2 (nwZ w T L) ((m3 w g.toNat x84.1, x84.2)) (CQ3) rfl B8 M9
 intro h75;refine R7 ?_;refine A1 rfl (AB0 [2, 2, 2, 2, 2, 2, 2] 2 (nwZ w T L) ([]) rfl call239 rfl rfl (o5) (Af3 b w X T L H.1.Lead gl hxl hld.1 hgg.good hll) F4) ?_;refine R1 ?_;refine zF rfl call123 (AM1 (i0 gl) t qz8) F4 ?_;refine R4 ?_;intro b11;refine zC ?_ ?_
 ·intro h94;refine R5 ?_;refine L3 [3, 3, 3, 3, 3, 3, 3] 3 7 (nwZ w T L) (fun zz => nwZ w T L) rfl rfl rfl rfl call243 rfl rfl (Ao4 b w X T L H.1.Lead gl hxl hld.1 hgg) F4 (fun a => N3) ?_;intro x98 ok98;refine R6 ?_;exact G8 [0, 0, 0, 0, 0, 0, 0] 3 (nwZ w T L) ((m3 w H.1.Lead.toNat x98, true)) (CQ3) rfl B8 M9
 intro h94;refine R8 ?_;refine L3 [3, 3, 3, 3, 3, 3, 3] 3 7 (nwZ w T L) (fun zz => nwZ w T L) rfl rfl rfl rfl call237 rfl rfl (hput3) (A2 zA (A2 zA (A2 (AY5 zA Av8) B0))) (fun a => N3) ?_;intro x104 ok104;refine R3 ?_;exact G8 [0, 0, 0, 0, 0, 0, 0] 3 (nwZ w T L) ((m3 w H.1.Lead.toNat x104.1, x104.2)) (CQ3) rfl B8 M9
theorem CL8 (b : Nat) (w : D1) (X : WX) (T : List (Value × Value)) (L : List Value) (t : Int) (hw : WI w) : L7 285 [AV.ptr b 0, AV.int t] (WB b w X T L) (fun v : D1 × Bool => WI v.1 ∧ WS w v.1) (fun v => WB b v.1 X T L) (fun v => AV.bool v.2) := by
 have hng := hw.n;refine C6 func285 rfl ntmps285 rfl ?_;refine R16 ?_;refine zL [0, 0, 0, 0, 0, 0, 0] ?_;refine J5 [(0, _), (1, _), (11, _)] [] (fun (i : Nat) (v : D1) => i ≤ w.Groups.length ∧ WI v ∧ WS w v) (fun i v => [.box b 245 [AV.int v.Now, AV.int v.Count, AV.is X.cl, strs v.Cuts, AV.is X.gr, AV.is X.lo, AV.is X.pr, AV.is X.tx, AV.is X.lk], .arr X.cl 101 1 (v.Clocks.map U4.cs), .arr X.gr 93 3 (v.Groups.map D0.cs), .arr X.lo 96 1 (v.Locks.map fun l => [AV.list 3 (l.map H3.cs)]), .arr X.pr 3 1 (v.Promised.map fun n => [AV.int n]), .arr X.tx 55 10 (J9 B5.ocs v.Txns T), .arr X.lk 73 6 (J9 B9.ocs v.Looks L)] ++ (nwZ v T L)) (fun i v => [(12, AV.int i)]) (fun i v => w.Groups.length - i) (0) (w) ?_ (K5 (by (rw [S0]; rfl)) A4) ?_
 ·exact ⟨E2 _, hw, WS.refl w⟩
 intro i v hinv;refine G6 (S0 _) ?_;refine zK ?_ ?_
 ·intro h13 k13;obtain ⟨gi, hgi⟩ := B3 (show ((i : Nat) : Int).toNat < v.Groups.length by rw [hinv.2.2.groups]; omega);refine R13 ?_;refine L3 [0, 0, 0, 0, 0, 0, 0] 0 7 (nwZ v T L) (fun zz => nwZ zz.1 T L) rfl rfl rfl rfl call321 rfl rfl (Cu8 b v X T L (i : Int) t gi hinv.2.1 qz8 hgi) AJ2 (fun a => N3) ?_;intro x18 ok18;refine zC ?_ ?_
  ·intro h18;refine R5 ?_;exact G8 [0, 0, 0, 0, 0, 0, 0] 0 (nwZ x18.1 T L) ((x18.1, true)) ((by first | exact ⟨ok18.1, hinv.2.2.trans ok18.2⟩ | exact hinv.2)) rfl B8 M9
  intro h18;refine R5 ?_;refine G0 i v (i + 1) (x18.1) ?_ ?_ (K5 (Eq.trans B8 (S0 _).symm) A4)
  ·exact ⟨by omega, ok18.1, hinv.2.2.trans ok18.2⟩
  omega
 intro h13 k13;refine R6 ?_;exact G8 [0, 0, 0, 0, 0, 0, 0] 0 (nwZ v T L) ((v, false)) ((by first | exact ⟨ok18.1, hinv.2.2.trans ok18.2⟩ | exact hinv.2)) rfl B8 M9
theorem goOn_own (b : Nat) (w : D1) (X : WX) (T : List (Value × Value)) (L : List Value) (t : Int) (hw : WI w) (hc : ∀ x ∈ w.Txns, x.Begin < w.Count) (hT : T.length = w.Txns.length) (ht : 1 ≤ t ∧ (t - 1).toNat < w.Txns.length) : L7 284 [AV.ptr b 0, AV.int t] (WB b w X T L) (fun v : (D1 × Bool) × List (Value × Value) => (WI v.1.1 ∧ WS w v.1.1) ∧ v.2.length = T.length) (fun v => WB b v.1.1 X v.2 L) (fun v => AV.bool v.1.2) := by
 have htn := hw.txns.1;obtain ⟨tx, htx⟩ := B3 ht.2;obtain ⟨y, hy⟩ := B3 (show (t - 1).toNat < T.length by omega);have htk := hw.txns.2 tx (C2 htx);have hsb := htk.sb;have hstep := BW7 tx.Ops y.1 tx.Got hsb.len hsb.ops hsb.got.2;refine C6 func284 rfl ntmps284 rfl ?_;refine R13 ?_;refine A1 rfl (I3 5 rfl N0 T5 zA rfl zA qz8 Aw0) ?_;refine R7 ?_;refine zq56 ?_;refine zC ?_ ?_
 ·intro h17;refine R5 ?_;exact G8 [0, 0, 0, 0, 0, 0, 0] 0 (nwZ w T L) (((w, false), T)) (Bz7) rfl B8 M9
 intro h17;refine R3 ?_;refine zq65 ?_;refine A1 rfl (N5 5 rfl zA rfl Q4 qz2 rfl) ?_;refine zC ?_ ?_
 ·intro h22;have hwf := wf_beg hw htx BI1;obtain ⟨W', hW⟩ : ∃ W', AO0 w (t - 1).toNat (CP2 tx w.Count) = W' := ⟨_, rfl⟩;rw [hW] at hwf;refine R8 ?_;refine zq65 ?_;refine Z7 5 rfl rfl rfl zA zA (W9 _ _) rfl F2 qz2 rfl ?_;refine R2 ?_;refine G6 (show _ = WB b W' X T L from (by rw [← hW]; unfold WB AO0; dsimp only; rw [AP7 htx hy, Am6 (p' := CP2 tx w.Count) htx (fun _ => rfl)]; rfl)) ?_;refine R4 ?_;exact G8 [0, 0, 0, 0, 0, 0, 0] 0 (nin B5.ow W'.Txns T ++ nin B9.ow W'.Looks L) (((W', true), T)) (Bz7) rfl B8 M9
 intro h22;have hbg : 0 ≤ tx.Begin := (by simp at h22; omega);have hq : ∀ tx, w.Txns[(t - 1).toNat]? = some tx → 0 ≤ tx.Begin ∧ tx.Begin < w.Count := (fun z hz => by rw [htx] at hz; injection hz with hz; subst hz; exact ⟨hbg, hc _ (C2 htx)⟩);refine R3 ?_;refine zq65 ?_;refine A1 rfl (N5 5 rfl zA rfl Q4 qz2 rfl) ?_;refine zC ?_ ?_
 ·intro h36;refine R4 ?_;refine L3 [0, 0, 0, 0, 0, 0, 0] 0 7 (nwZ w T L) (fun zz => nwZ zz.1 T L) rfl rfl rfl rfl call285 rfl rfl (CL8 b w X T L t hw) F4 (fun a => N3) ?_;intro x44 ok44;refine R3 ?_;exact G8 [0, 0, 0, 0, 0, 0, 0] 0 (nwZ x44.1 T L) (((x44.1, x44.2), T)) (Bz7) rfl B8 M9
 intro h36;refine R3 ?_;refine zq56 ?_;refine zC ?_ ?_
 ·intro h45;refine R4 ?_;refine L3 [0, 0, 0, 0, 0, 0, 0] 0 7 (nwZ w T L) (fun zz => nwZ zz.1 T L) rfl rfl rfl rfl call317 rfl rfl (dead_own b w X T L t hw hq hT ht) F4 (fun a => N3) ?_;intro x52 ok52;refine R3 ?_;exact G8 [0, 0, 0, 0, 0, 0, 0] 0 (nwZ x52.1 T L) (((x52.1, x52.2), T)) (Bz7) rfl B8 M9
 intro h45;refine R2 ?_;refine zq9 ?_;refine O5 _ [(0, false), (1, false), (2, false), (3, false), (4, false), (5, false), (6, false), (7, false), (8, true), (9, false), (10, false), (11, false), (12, false), (13, false), (14, false)] E6 E6 rfl (S1 7) ?_;refine R1 ?_;refine P7 rfl rfl rfl (fun ext => i9 5 rfl zA rfl qz2 rfl) ?_;refine P7 rfl rfl rfl (fun ext => L5 5 rfl M1 rfl Ad2 zA rfl rfl qz2) ?_;refine P7 rfl rfl rfl (fun ext => N5 5 rfl zA rfl isAgg53 qz2 rfl) ?_;refine R1 ?_;refine P7 rfl rfl rfl (fun ext => i9 5 rfl zA rfl qz2 rfl) ?_;refine P7 rfl rfl rfl (fun ext => L5 5 rfl M1 rfl S3 zA rfl rfl qz2) ?_;refine P7 rfl rfl rfl (fun ext => N5 5 rfl zA rfl AD6 qz2 rfl) ?_;refine S8 rfl rfl rfl (AC5 8 (P3 [7] rfl call124 rfl (hstep) F4 rfl)) (fun a _ => qz4) ?_;intro x62 ok62;refine R11 ?_;refine zL [0, 0, 0, 0, 0, 0, 0, 1, 0] ?_;refine AWP.le (S6 7 (t := nwZ w T L) ((AZ7 htx hy).symm)) ?_;refine G6 Ac5 ?_;refine zC ?_ ?_
 ·intro h67;have k67 := J3 h67;(try simp only [A7] at k67);have hkl := step_ask htk (by simpa using h67);refine R5 ?_;refine L3 [0, 0, 0, 0, 0, 0, 0] 0 7 (nwZ w T L) (fun zz => nwZ zz.1.1 zz.2 L) rfl rfl rfl rfl call318 rfl rfl (read_own b w X T L t _ hw hT ht hkl) AJ2 (fun a => N3) ?_;intro x72 ok72;refine R3 ?_;exact G8 [0, 0, 0, 0, 0, 0, 0] 0 (nwZ x72.1.1 x72.2 L) (((x72.1.1, x72.1.2), x72.2)) (Bz7) rfl B8 M9
 intro h67;have k67 := J0 h67;(try simp only [A7] at k67);refine zC ?_ ?_
 ·intro h73;have k73 := J3 h73;(try simp only [A7] at k73);refine zq134 ?_;intro x77 ok77;refine R6 ?_;exact G8 [0, 0, 0, 0, 0, 0, 0] 0 (nwZ x77 T L) (((x77, true), T)) (Bz7) rfl B8 M9
 intro h73;have k73 := J0 h73;(try simp only [A7] at k73);refine R5 ?_;refine L3 [0, 0, 0, 0, 0, 0, 0] 0 7 (nwZ w T L) (fun zz => nwZ zz.1 T L) rfl rfl rfl rfl call320 rfl rfl (DP5 b w X T L t hw hq hT ht) F4 (fun a => N3) ?_;intro x80 ok80;refine R3 ?_;exact G8 [0, 0, 0, 0, 0, 0, 0] 0 (nwZ x80.1 T L) (((x80.1, x80.2), T)) (Bz7) rfl B8 M9
end Go.PQ