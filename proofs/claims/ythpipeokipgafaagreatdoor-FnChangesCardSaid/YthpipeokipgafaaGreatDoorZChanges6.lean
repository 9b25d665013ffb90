/- Texts of the claim, part 6. -/
import Derived.Shelf.Strconv.Itoa3
import Derived.Test.YthpipeokipgafaaGreatDoorProg
import Derived.Shelf.Strconv.ErrVarAll
import Derived.Shelf.Vars
import Derived.Stop.LaidErr
import Derived.Test.YthpipeokipgafaaGreatDoorCards
import Derived.Test.YthpipeokipgafaaGreatDoorTie
import Derived.Lay
import Derived.SevenTiedAt
import Derived.Test.YthpipeokipgafaaGreatDoorZChanges5
set_option linter.defProp false
set_option linter.unusedVariables false
set_option linter.unusedSimpArgs false
set_option maxRecDepth 100000
set_option maxHeartbeats 4000000
namespace Go.M
open Go.AV
theorem Cb2 {d : UInt8} : ∀ (s : Str) (m n : Nat), X6 m (s ++ [d]) = (n : Int) → ∃ v : Nat, X6 m s = (v : Int) ∧ (48 ≤ d.toNat ∧ d.toNat ≤ 57) ∧ n = 10 * v + (d.toNat - 48)
  | [], m, n, h => by
    simp only [AC0, X6] at h;split at h
    · rename_i hd
      refine ⟨m, rfl, ?_, by omega⟩;unfold Av5 at hd; simp at hd; omega
    · exfalso; omega
  | b :: s, m, n, h => by
    show ∃ v : Nat, (if Av5 b = true then X6 (10 * m + (b.toNat - 48)) s else -1) = (v : Int) ∧ _
    have h2 : (if Av5 b = true then X6 (10 * m + (b.toNat - 48)) (s ++ [d]) else -1) = (n : Int) := h;split at h2
    · rename_i hb
      rw [D0 hb];exact Cb2 s _ n h2
    · exfalso; omega
theorem rd_ge : ∀ (s : Str) (m n : Nat), X6 m s = (n : Int) → m ≤ n
  | [], m, n, h => by simp only [X6] at h; omega
  | b :: s, m, n, h => by
    simp only [X6] at h;split at h
    · have := rd_ge s _ n h; omega
    · exfalso; omega
theorem u8_dig {d : UInt8} (h : 48 ≤ d.toNat ∧ d.toNat ≤ 57) : UInt8.ofNat (48 + (d.toNat - 48)) = d := by
  apply UInt8.toNat_inj.1
  simp; omega
theorem dec_of : ∀ (k : Nat) (s : Str) (n : Nat), s.length = k + 1 → X6 0 s = (n : Int) → (s.head? ≠ some 48 ∨ k = 0) → u6 n = s
  | 0, s, n, hl, h, _ => by
    match s, hl with
    | [d], _ =>
      obtain ⟨v, h1, h2, h3⟩ := Cb2 [] 0 n h;simp only [X6] at h1;have hv : v = 0 := by omega
      subst hv;rw [AL9 qz8, h3, show 48 + (10 * 0 + (d.toNat - 48)) = 48 + (d.toNat - 48) by omega, u8_dig h2]
  | k + 1, s, n, hl, h, hh => by
    have hne : s ≠ [] := by rintro rfl; simp at hl
    obtain ⟨t, d, rfl⟩ : ∃ t d, s = t ++ [d] := ⟨s.dropLast, s.getLast hne, (List.dropLast_concat_getLast hne).symm⟩;have htl : t.length = k + 1 := by simpa using hl
    obtain ⟨v, h1, h2, h3⟩ := Cb2 t 0 n h
    match t, htl with
    | b :: t', _ =>
      have hb : b ≠ 48 := by
        rcases hh with hh | hh
        · intro e; subst e; simp at hh
        · omega
      have ih := dec_of k (b :: t') v AC4 h1 (.inl (by simpa using hb));have hv : 1 ≤ v := by
        simp only [X6] at h1;split at h1
        · rename_i hd
          have h9 := rd_ge t' _ v h1;have h8 : b.toNat ≠ 48 := fun e => hb (UInt8.toNat_inj.1 e);unfold Av5 at hd; simp at hd;omega
        · exfalso; omega
      rw [AY0 qz8, show n / 10 = v by omega, show n % 10 = d.toNat - 48 by omega, u8_dig h2, ih]
theorem Bn9 {s : Str} (h : 0 ≤ l1R s) : s = u6 (l1R s).toNat := by
  unfold l1R at h ⊢;by_cases hb : Ax0 s = true
  · rw [D0 hb] at h; omega
  · rw [C6 hb] at h ⊢
    obtain ⟨n, hn⟩ : ∃ n : Nat, X6 0 s = (n : Int) := ⟨(X6 0 s).toNat, by omega⟩;rw [hn];have hc : within s.length 1 6 = true ∧ ((s.head?.map fun b => b == 48).getD false && decide ((1 : Int) < (s.length : Int))) = false := by
      unfold Ax0 at hb;simp only [AA9, not_or, i6, Bool.not_eq_false] at hb;exact ⟨hb.1, by simpa using hb.2⟩
    have hl : 1 ≤ s.length := by have := hc.1; unfold within at this; simp at this; omega
    refine (dec_of (s.length - 1) s n qz8 hn ?_).symm
    cases s with
    | nil => simp at hl
    | cons b r =>
      by_cases hz : r.length = 0
      · exact .inr (by simpa using hz)
      · left
        have h2 := hc.2;simp only [List.head?_cons, r6, Option.getD_some, Bool.and_eq_false_iff, w5] at h2;rcases h2 with h2 | h2
        · simpa using h2
        · exfalso; simp at h2; omega
theorem Cb3 {s : Str} {n : Int} (h : l5N s = (n, true)) : s = AO8 n ∧ -999999 ≤ n ∧ n ≤ 999999 := by
  have up : ∀ t : Str, 0 ≤ l1R t → l1R t ≤ 999999 := fun t ht => by
    have e := Bn9 ht;have hl : t.length ≤ 6 := by
      unfold l1R at ht;split at ht
      · omega
      · rename_i hb
        unfold Ax0 within at hb
        simp at hb; omega
    rw [e] at hl;have hnn : l1R t = ((l1R t).toNat : Int) := by omega
    by_cases hb : (l1R t).toNat ≤ 999999
    · omega
    · exfalso
      have : ∀ m : Nat, 10 ^ 6 ≤ m → 7 ≤ (u6 m).length := by
        intro m;have step : ∀ k m : Nat, 10 ^ k ≤ m → k + 1 ≤ (u6 m).length := by
          intro k;induction k with
          | zero => intro m _; have := Bg7 m; cases hd : u6 m with | nil => exact absurd hd this | cons b r => simp
          | succ k ih =>
            intro m hm;have h10 : ¬ m < 10 := by rw [Nat.pow_succ] at hm; have := Nat.one_le_pow k 10 F1; omega
            rw [AY0 h10, H3];have := ih (m / 10) (by rw [Nat.pow_succ] at hm; omega);simp only [H8, Q1]; omega
        exact step 6 m
      have := this (l1R t).toNat qz8;omega
  unfold l5N at h;by_cases hh : s.head? = some 45
  · rw [D0 (c := s.head? = some 45) hh] at h
    split at h
    · cases h
    · rename_i hc
      injection h with h _
      simp only [AA9, H1, E8, j0, not_or, not_and] at hc;have h0 := hc.2 hh;have h1 : 0 ≤ l1R (s.drop 1) := by omega
      have e := Bn9 h1;have hu := up _ h1
      cases s with
      | nil => cases hh
      | cons b r =>
        simp at hh; subst hh;have e2 : r = u6 (l1R r).toNat := e;have h1' : 0 ≤ l1R r := h1;have h0' : ¬ l1R r = 0 := h0;have hu' : l1R r ≤ 999999 := hu;have hn : n = -(((l1R r).toNat : Nat) : Int) := by rw [← h]; show -(l1R r) = _; omega
        refine ⟨?_, by omega, by omega⟩;rw [hn, An6 qz8, ← e2]
  · rw [C6 (c := s.head? = some 45) hh] at h
    split at h
    · cases h
    · rename_i hc
      injection h with h _
      simp only [AA9, H1, not_or] at hc;have h1 : 0 ≤ l1R s := by omega
      have e := Bn9 h1;have hu := up _ h1;have hn : n = (((l1R s).toNat : Nat) : Int) := by omega
      refine ⟨?_, by omega, by omega⟩;rw [hn, As6, ← e]
theorem Cv8 {s : Str} {n lo hi : Int} (h : AM5 s lo hi = (n, true)) : s = AO8 n ∧ within n lo hi = true := by
  unfold AM5 at h;split at h
  · cases h
  · rename_i hc
    injection h with h _
    simp only [AA9, not_or, i6, Bool.not_eq_false, BA6, ne_eq, Decidable.not_not] at hc;subst h;exact ⟨hc.2.symm, hc.1.2⟩
theorem Cv9 (s : Str) (lo hi : Int) : (AM5 s lo hi).2 = false → AM5 s lo hi = (0, false) := fun h => by
  unfold AM5 at h ⊢;split
  · rfl
  · rename_i hc; rw [C6 hc] at h; cases h
theorem Cb4 (s : Str) (h : (l5N s).2 = false) : l5N s = (0, false) := by
  unfold l5N at h ⊢;by_cases hh : s.head? = some 45
  · rw [D0 (c := s.head? = some 45) hh] at h ⊢
    split
    · rfl
    · rename_i hc; rw [C6 hc, D0 hh] at h; cases h
  · rw [C6 (c := s.head? = some 45) hh] at h ⊢
    split
    · rfl
    · rename_i hc; rw [C6 hc, C6 hh] at h; cases h
theorem DD5 (s : Str) : AM5 s (-999999) 999999 = l5N s := by
  cases h1 : (AM5 s (-999999) 999999).2 with
  | true =>
    have e : AM5 s (-999999) 999999 = ((AM5 s (-999999) 999999).1, true) := by rw [← h1]
    obtain ⟨h2, h3⟩ := Cv8 e;have hw : -999999 ≤ (AM5 s (-999999) 999999).1 ∧ (AM5 s (-999999) 999999).1 ≤ 999999 := by unfold within at h3; simpa using h3
    have h4 := l5N_itoa hw;rw [← h2] at h4;rw [e, h4]
  | false =>
    cases h2 : (l5N s).2 with
    | true =>
      have e : l5N s = ((l5N s).1, true) := by rw [← h2]
      obtain ⟨h3, h4⟩ := Cb3 e;have h5 := Cv4 (n := (l5N s).1) (lo := -999999) (hi := 999999) qz8 (by unfold within; simp; omega);rw [← h3] at h5;rw [h5] at h1; cases h1
    | false => rw [Cv9 s _ _ h1, Cb4 s h2]
def L2 (buf : List A4) (got : List K8) (k : Str) : Str × Bool × Bool :=
  match buf.find? (fun w => w.Key == k) with
  | some w => (w.Val, !w.Gone, true)
  | none => match got.find? (fun g => g.Key == k) with
    | some g => (g.Val, g.There, true)
    | none => ([], false, false)
def AL4 (o : TOp) (val : Str) (there : Bool) : Bool :=
  if o.Kind = 4 then (if there = true then !(l5N val).2 || !within ((l5N val).1 + o.By) (-999999) 999999 else false)
  else if o.Kind = 5 then (!there || !(l5N val).2) || decide ((l5N val).1 < o.By)
  else if o.Kind = 6 then there
  else if o.Kind = 7 then !there || (val != o.Val)
  else false
def Bd8 (o : TOp) (val : Str) (there : Bool) : Int := (if there = true then (l5N val).1 else 0) + o.By
def AB4 (o : TOp) (val : Str) (there : Bool) (buf : List A4) : List A4 :=
  if o.Kind = 2 then ins buf ⟨o.Key, o.Val, false⟩
  else if o.Kind = 3 then ins buf ⟨o.Key, [], true⟩
  else if o.Kind = 4 then ins buf ⟨o.Key, AO8 (Bd8 o val there), false⟩
  else buf
def asks (o : TOp) (s : Str × Bool × Bool) : Bool := (!s.2.2 && (o.Kind != 2)) && (o.Kind != 3)
def AN9 (got : List K8) : List A4 → List TOp → Int × Str × List A4
  | buf, [] => (3, [], buf)
  | buf, o :: l =>
    if asks o (L2 buf got o.Key) = true then (1, o.Key, [])
    else if AL4 o (L2 buf got o.Key).1 (L2 buf got o.Key).2.1 = true then (2, [], [])
    else AN9 got (AB4 o (L2 buf got o.Key).1 (L2 buf got o.Key).2.1 buf) l
def o8 (l : List TOp) (got : List K8) : Int × Str × List A4 := AN9 got [] l
theorem BT2 {w : A4} {k : Str} : ∀ {l : List A4}, k ∈ Q3 (ins l w) ↔ k = w.Key ∨ k ∈ Q3 l
  | [] => by unfold ins Q3; simp
  | x :: l => by
    have ih := BT2 (w := w) (k := k) (l := l);unfold Q3 at ih ⊢;unfold ins;split
    · rw [U8, U8, Q0, Q0, ih]
      constructor
      · rintro (e | e | e); exact .inr (.inl e); exact .inl e; exact .inr (.inr e)
      · rintro (e | e | e); exact .inr (.inl e); exact .inl e; exact .inr (.inr e)
    · split
      · rename_i h
        rw [U8, U8, Q0, Q0, h];constructor
        · rintro (e | e); exact .inl e; exact .inr (.inr e)
        · rintro (e | e | e); exact .inl e; exact .inl e; exact .inr e
      · rw [U8, U8, Q0, Q0]
theorem Al7 {o : TOp} {v : Str} {t : Bool} {buf : List A4} (h : adj N3 buf = true) : adj N3 (AB4 o v t buf) = true := by
  unfold AB4;split
  · exact AZ6 h
  · split
    · exact AZ6 h
    · split
      · exact AZ6 h
      · exact h
theorem Al8 {o : TOp} {v : Str} {t : Bool} {buf : List A4} : (AB4 o v t buf).length ≤ buf.length + 1 := by
  unfold AB4;split
  · exact BM3.2
  · split
    · exact BM3.2
    · split
      · exact BM3.2
      · omega
theorem DD6 {n : Int} (h : -999999 ≤ n ∧ n ≤ 999999) : (AO8 n).length ≤ 7 := by
  by_cases hn : 0 ≤ n
  · rw [itoa_pos hn]
    have := As5 (k := 6) (n := n.toNat) qz8 F1; omega
  · obtain ⟨m, rfl⟩ : ∃ m : Nat, n = -(m : Int) := ⟨n.natAbs, by omega⟩
    rw [An6 qz8];have := As5 (k := 6) (n := m) qz8 F1;simp only [H8]; omega
theorem Bu5 {o : TOp} {v : Str} {t : Bool} (hk : o.Kind = 4) (hb : -10000 ≤ o.By ∧ o.By ≤ 10000) (h : AL4 o v t = false) : -999999 ≤ Bd8 o v t ∧ Bd8 o v t ≤ 999999 := by
  unfold AL4 at h;rw [D0 hk] at h;unfold Bd8
  cases t with
  | false => rw [C6 F1]; omega
  | true =>
    rw [D0 rfl] at h ⊢;simp only [r5, AD5] at h;have := h.2;unfold within at this
    simp only [E8, H1] at this;exact this
theorem Al9 {o : TOp} {v : Str} {t : Bool} {buf : List A4} {n : Nat} (ho : o.size ≤ n) (hn : 19 ≤ n) (hb : -10000 ≤ o.By ∧ o.By ≤ 10000) (hk : o.Key.length ≤ 12 ∨ o.Kind ≠ 4) (hg : AL4 o v t = false) (h : ∀ w ∈ buf, w.size ≤ n) : ∀ w ∈ AB4 o v t buf, w.size ≤ n := by
  have hos : o.Key.length ≤ n ∧ o.Key.length + o.Val.length ≤ n := by unfold TOp.size at ho; omega
  unfold AB4;split
  · intro w hw
    rcases BB7 hw with rfl | hw
    · unfold A4.size; exact hos.2
    · exact h w hw
  · split
    · intro w hw
      rcases BB7 hw with rfl | hw
      · unfold A4.size; simp only [Q1]; omega
      · exact h w hw
    · split
      · rename_i h2 h3 h4
        intro w hw;rcases BB7 hw with rfl | hw
        · have := DD6 (Bu5 h4 hb hg)
          unfold A4.size;dsimp only;rcases hk with hk | hk
          · omega
          · exact absurd h4 hk
        · exact h w hw
      · exact h
theorem Cw0 {o : TOp} {v : Str} {t : Bool} {buf : List A4} {k : Str} (h : k ∈ Q3 (AB4 o v t buf)) : k = o.Key ∨ k ∈ Q3 buf := by
  unfold AB4 at h;split at h
  · exact BT2.1 h
  · split at h
    · exact BT2.1 h
    · split at h
      · exact BT2.1 h
      · exact .inr h
structure Ran (l : List TOp) (got : List K8) (b : Nat) (n : Nat) (r : Int × Str × List A4) : Prop where
  adj : adj N3 r.2.2 = true
  len : r.2.2.length ≤ b + l.length
  size : ∀ w ∈ r.2.2, w.size ≤ n
  ed : r.1 = 1 ∨ r.1 = 2 ∨ r.1 = 3
  ask : r.1 = 1 → (∃ o ∈ l, o.Key = r.2.1) ∧ ∀ g ∈ got, g.Key ≠ r.2.1
  klen : r.2.1.length ≤ n
structure BO6 (n : Nat) (o : TOp) : Prop where
  size : o.size ≤ n
  by' : -10000 ≤ o.By ∧ o.By ≤ 10000
  key : o.Key.length ≤ 12
theorem Cb5 {buf : List A4} {got : List K8} {k : Str} (h : (L2 buf got k).2.2 = false) : (∀ w ∈ buf, w.Key ≠ k) ∧ ∀ g ∈ got, g.Key ≠ k := by
  unfold L2 at h;split at h
  · cases h
  · rename_i hb
    split at h
    · cases h
    · rename_i hg
      refine ⟨fun w hw e => ?_, fun g hg2 e => ?_⟩
      · have := List.find?_eq_none.1 hb w hw; simp [e] at this
      · have := List.find?_eq_none.1 hg g hg2; simp [e] at this
theorem Cb6 {got : List K8} {n : Nat} (hn : 19 ≤ n) : ∀ {l : List TOp} {buf : List A4}, (∀ o ∈ l, BO6 n o) → adj N3 buf = true → (∀ w ∈ buf, w.size ≤ n) → Ran l got buf.length n (AN9 got buf l)
  | [], buf, _, ha, hs => ⟨ha, K5 _, hs, .inr (.inr rfl), fun h => absurd h (show ¬ (3 : Int) = 1 by decide), E2 _⟩
  | o :: l, buf, ho, ha, hs => by
    have h0 := ho o Y9;unfold AN9;split
    · rename_i hk
      unfold asks at hk;simp only [E8, i6] at hk;refine ⟨rfl, E2 _, fun w hw => (by cases hw), .inl rfl, fun _ => ⟨⟨o, Y9, rfl⟩, (Cb5 hk.1.1).2⟩, ?_⟩;have := h0.key; dsimp only; omega
    · split
      · exact ⟨rfl, E2 _, fun w hw => (by cases hw), .inr (.inl rfl), fun h => absurd h F1, E2 _⟩
      · rename_i hk hg
        rw [Bool.not_eq_true] at hg;have ih := Cb6 (got := got) hn (l := l) (buf := AB4 o (L2 buf got o.Key).1 (L2 buf got o.Key).2.1 buf) (fun x hx => ho x (Q2 _ hx)) (Al7 ha) (Al9 h0.size hn h0.by' (.inl h0.key) hg hs);have hl := Al8 (o := o) (v := (L2 buf got o.Key).1) (t := (L2 buf got o.Key).2.1) (buf := buf);refine ⟨ih.adj, ?_, ih.size, ih.ed, fun h => ?_, ih.klen⟩
        · have := ih.len; rw [H8]; omega
        · obtain ⟨⟨x, hx, e⟩, k⟩ := ih.ask h
          exact ⟨⟨x, Q2 _ hx, e⟩, k⟩
theorem ran {l : List TOp} {got : List K8} {n : Nat} (hn : 19 ≤ n) (h : ∀ o ∈ l, BO6 n o) : Ran l got 0 n (o8 l got) := Cb6 hn h rfl fun w hw => absurd hw List.not_mem_nil
theorem An7 {l : List TOp} (h : AE8 l = true) : ∀ o ∈ l, BO6 36 o := fun o ho => by
  have hg := Cv5 h o ho;unfold BF1 f6 Aa1 within at hg
  simp only [E8, H1] at hg;obtain ⟨⟨⟨⟨⟨a1, a2⟩, a3⟩, a4⟩, a5⟩, a6⟩ := hg;exact ⟨by unfold TOp.size; omega, by omega, by omega⟩
def isTxn (n : Int) : Bool := within n 1 60
def Ax1 (x : G2) : Bool := f6 x.Key && isTxn x.Txn
def Aj2 (x y : G2) : Bool := ((x.Key == y.Key) && (x.Txn != y.Txn)) && (x.Write || y.Write)
def Ay4 (x y : G2) : Bool := Aj2 x y || ((x.Key == y.Key) && (x.Txn == y.Txn))
def AG3 (p : List G2) : List G2 → Bool
  | [] => true
  | x :: r => (Ax1 x && !(p.any (Ay4 x))) && AG3 (p ++ [x]) r
def AM9 (l : List G2) : Bool := AG3 [] l && decide ((l.length : Int) ≤ 60)
def AO0 : List Int → Int → List Int
  | [], n => [n]
  | x :: l, n => if x < n then x :: AO0 l n else if x = n then x :: l else n :: x :: l
def AA2 (l : List G2) (x : G2) : List Int := (l.filter (Aj2 x)).foldl (fun a y => AO0 a y.Txn) []
def AH4 : List G2 → G2 → List G2
  | [], x => [x]
  | y :: l, x => if (y.Key == x.Key && y.Txn == x.Txn) = true then ⟨y.Key, y.Txn, y.Write || x.Write⟩ :: l else y :: AH4 l x
def Aq6 (l : List G2) (fixed : List Int) (x : G2) (w : List Int) : Int × List Int :=
  if w.length = 0 then (1, []) else if (w.any fun t => decide (t < x.Txn) || fixed.any fun y => t == y) = true then (2, []) else (3, w)
theorem AY9 {l : List G2} {i : Nat} {x : G2} (h : l[i]? = some x) : AG3 (l.take i) (l.drop i) = ((Ax1 x && !((l.take i).any (Ay4 x))) && AG3 (l.take (i + 1)) (l.drop (i + 1))) := by
  rw [I8 h, AG3, T5, h]; rfl
structure Bp7 (n : Nat) (c : Int) (t : B2) : Prop where
  terms : t.Terms.length = n
  ops : AE8 t.Ops = true ∧ ∀ o ∈ t.Ops, o.Key ∈ u5
  got : t.Got.length ≤ 8 ∧ ∀ g ∈ t.Got, g.size ≤ 64
  span : t.Begin ≤ c ∧ (t.End = -1 ∨ (0 ≤ t.Begin ∧ t.Begin < t.End ∧ t.End ≤ c))
structure LkOk (n : Nat) (c : Int) (l : B6) : Prop where
  node : 0 ≤ l.Node ∧ l.Node < 3 * (n : Int)
  keys : l.Keys.length ≤ 8 ∧ ∀ k ∈ l.Keys, k.length ≤ 12
  got : l.Got.length ≤ l.Keys.length ∧ ∀ g ∈ l.Got, g.size ≤ 64
  span : l.Begin ≤ c ∧ (l.End = -1 ∨ (0 ≤ l.Begin ∧ l.Begin < l.End ∧ l.End ≤ c))
  time : 0 ≤ l.Time ∧ l.Time ≤ 1000000
def AP9 (l : List G2) : Prop := l.length ≤ 60 ∧ ∀ x ∈ l, (1 ≤ x.Txn ∧ x.Txn ≤ 1000000) ∧ x.size ≤ 64
structure WI (w : C9) : Prop where
  n : 1 ≤ w.Groups.length ∧ w.Groups.length ≤ 3
  clocks : w.Clocks.length = 3 * w.Groups.length ∧ ∀ c ∈ w.Clocks, -5 ≤ c.Off ∧ c.Off ≤ 5
  cuts : w.Cuts.length + 1 = w.Groups.length ∧ ∀ c ∈ w.Cuts, c.length ≤ 12
  locks : w.Locks.length = w.Groups.length ∧ ∀ l ∈ w.Locks, AP9 l
  promised : w.Promised.length = w.Groups.length ∧ ∀ p ∈ w.Promised, 0 ≤ p ∧ p ≤ 1000000
  groups : ∀ g ∈ w.Groups, WG g
  txns : w.Txns.length ≤ 6 ∧ ∀ t ∈ w.Txns, Bp7 w.Groups.length w.Count t
  looks : w.Looks.length ≤ 4 ∧ ∀ l ∈ w.Looks, LkOk w.Groups.length w.Count l
  now : 0 ≤ w.Now ∧ w.Now ≤ 100000
  count : 0 ≤ w.Count ∧ w.Count ≤ 1000000
structure WQ (w : C9) : Prop where
  txns : ∀ t ∈ w.Txns, t.Begin < w.Count
  looks : ∀ l ∈ w.Looks, l.Begin < w.Count
structure WS (w v : C9) : Prop where
  cuts : v.Cuts = w.Cuts
  groups : v.Groups.length = w.Groups.length
  txns : v.Txns.length = w.Txns.length
  looks : v.Looks.length = w.Looks.length
  now : v.Now = w.Now
  count : v.Count = w.Count
structure WF (w v : C9) : Prop where
  wi : WI v
  ws : WS w v
  lk : v.Looks = w.Looks
  gr : v.Groups = w.Groups
theorem WF.trans {u v w : C9} (h : WF u v) (k : WF v w) : WF u w := ⟨k.wi, ⟨k.ws.cuts.trans h.ws.cuts, k.ws.groups.trans h.ws.groups, k.ws.txns.trans h.ws.txns, k.ws.looks.trans h.ws.looks, k.ws.now.trans h.ws.now, k.ws.count.trans h.ws.count⟩, k.lk.trans h.lk, k.gr.trans h.gr⟩
theorem WF.refl {w : C9} (h : WI w) : WF w w := ⟨h, ⟨rfl, rfl, rfl, rfl, rfl, rfl⟩, rfl, rfl⟩
theorem WS.refl (w : C9) : WS w w := ⟨rfl, rfl, rfl, rfl, rfl, rfl⟩
theorem WS.trans {u v w : C9} (h : WS u v) (k : WS v w) : WS u w := ⟨k.cuts.trans h.cuts, k.groups.trans h.groups, k.txns.trans h.txns, k.looks.trans h.looks, k.now.trans h.now, k.count.trans h.count⟩
def d3 (w : C9) (i : Nat) (g : C4) : C9 := { w with Groups := w.Groups.set i g }
def Af0 (w : C9) (i : Nat) (l : List G2) : C9 := { w with Locks := w.Locks.set i l }
def Ab4 (w : C9) (i : Nat) (p : Int) : C9 := { w with Promised := w.Promised.set i p }
def AH2 (w : C9) (i : Nat) (t : B2) : C9 := { w with Txns := w.Txns.set i t }
def AS2 (w : C9) (i : Nat) (t : B6) : C9 := { w with Looks := w.Looks.set i t }
def Bz5 (w : C9) (i : Nat) (c : S9) : C9 := { w with Clocks := w.Clocks.set i c }
theorem Ad9 {α : Type} {l : List α} {i : Nat} {x : α} {P : α → Prop} (h : ∀ y ∈ l, P y) (hx : P x) : ∀ y ∈ l.set i x, P y := fun y hy => by
  rcases List.mem_or_eq_of_mem_set hy with hy | rfl
  · exact h y hy
  · exact hx
theorem y7 {w : C9} (h : WI w) {i : Nat} {g : C4} (hg : WG g) : WI (d3 w i g) ∧ WS w (d3 w i g) := by
  have hl : (w.Groups.set i g).length = w.Groups.length := Z0 ..;refine ⟨⟨?_, ?_, ?_, ?_, ?_, Ad9 h.groups hg, ?_, ?_, h.now, h.count⟩, ⟨rfl, hl, rfl, rfl, rfl, rfl⟩⟩ <;> unfold d3 <;> dsimp only <;> rw [hl]
  · exact h.n
  · exact h.clocks
  · exact h.cuts
  · exact h.locks
  · exact h.promised
  · exact h.txns
  · exact h.looks
theorem Cb7 {w : C9} (h : WI w) {i : Nat} {l : List G2} (hg : AP9 l) : WI (Af0 w i l) ∧ WS w (Af0 w i l) :=
  ⟨⟨h.n, h.clocks, h.cuts, ⟨(Z0 ..).trans h.locks.1, Ad9 h.locks.2 hg⟩, h.promised, h.groups, h.txns, h.looks, h.now, h.count⟩, ⟨rfl, rfl, rfl, rfl, rfl, rfl⟩⟩
theorem Cp8 {w : C9} (h : WI w) {i : Nat} {p : Int} (hp : 0 ≤ p ∧ p ≤ 1000000) : WI (Ab4 w i p) ∧ WS w (Ab4 w i p) :=
  ⟨⟨h.n, h.clocks, h.cuts, h.locks, ⟨(Z0 ..).trans h.promised.1, Ad9 h.promised.2 hp⟩, h.groups, h.txns, h.looks, h.now, h.count⟩, ⟨rfl, rfl, rfl, rfl, rfl, rfl⟩⟩
theorem Aw5 {w : C9} (h : WI w) {i : Nat} {t : B2} (ht : Bp7 w.Groups.length w.Count t) : WI (AH2 w i t) ∧ WS w (AH2 w i t) :=
  ⟨⟨h.n, h.clocks, h.cuts, h.locks, h.promised, h.groups, ⟨by show (w.Txns.set i t).length ≤ 6; rw [Z0]; exact h.txns.1, Ad9 h.txns.2 ht⟩, h.looks, h.now, h.count⟩, ⟨rfl, rfl, Z0 .., rfl, rfl, rfl⟩⟩
theorem CD9 {w : C9} (h : WI w) {i : Nat} {t : B6} (ht : LkOk w.Groups.length w.Count t) : WI (AS2 w i t) ∧ WS w (AS2 w i t) :=
  ⟨⟨h.n, h.clocks, h.cuts, h.locks, h.promised, h.groups, h.txns, ⟨by show (w.Looks.set i t).length ≤ 4; rw [Z0]; exact h.looks.1, Ad9 h.looks.2 ht⟩, h.now, h.count⟩, ⟨rfl, rfl, rfl, Z0 .., rfl, rfl⟩⟩
theorem wi_clock {w : C9} (h : WI w) {i : Nat} {c : S9} (hc : -5 ≤ c.Off ∧ c.Off ≤ 5) : WI (Bz5 w i c) ∧ WS w (Bz5 w i c) :=
  ⟨⟨h.n, ⟨(Z0 ..).trans h.clocks.1, Ad9 h.clocks.2 hc⟩, h.cuts, h.locks, h.promised, h.groups, h.txns, h.looks, h.now, h.count⟩, ⟨rfl, rfl, rfl, rfl, rfl, rfl⟩⟩
theorem wi_now {w : C9} (h : WI w) {n : Int} (hn : 0 ≤ n ∧ n ≤ 100000) : WI { w with Now := n } := ⟨h.n, h.clocks, h.cuts, h.locks, h.promised, h.groups, h.txns, h.looks, hn, h.count⟩
theorem wi_count {w : C9} (h : WI w) (hc : w.Count < 1000000) : WI { w with Count := w.Count + 1 } ∧ WQ { w with Count := w.Count + 1 } := by
  have h0 := h.count;refine ⟨⟨h.n, h.clocks, h.cuts, h.locks, h.promised, h.groups, ⟨h.txns.1, fun t ht => ?_⟩, ⟨h.looks.1, fun t ht => ?_⟩, h.now, by dsimp only; omega⟩, ⟨fun t ht => ?_, fun t ht => ?_⟩⟩
  · have := h.txns.2 t ht; exact ⟨this.terms, this.ops, this.got, by dsimp only; have := this.span; omega⟩
  · have := h.looks.2 t ht; exact ⟨this.node, this.keys, this.got, by dsimp only; have := this.span; omega, this.time⟩
  · have := (h.txns.2 t ht).span; dsimp only; omega
  · have := (h.looks.2 t ht).span; dsimp only; omega
def AE9 (l : List I5) : List M5 := l.map I5.Rec
def BO7 (l : List I5) (n : Nat) : D9 := V9 T8 (AE9 (l.take n))
def AQ0 (g : C4) : E6 := g.Reps.foldl (fun b r => if b.Sure < r.Sure then r else b) (N9 g 0)
def AZ3 (g : C4) : D9 := BO7 (AQ0 g).Log (AQ0 g).Sure.toNat
def AO1 (g : C4) : Bool := decide (0 ≤ g.Lead) && ((N9 g g.Lead).Log.take (N9 g g.Lead).Sure.toNat).any fun e => e.Term == g.Term
def e6 (g : C4) : D9 := BO7 (N9 g g.Lead).Log (N9 g g.Lead).Sure.toNat
def X7 (g : C4) : D9 := BO7 (N9 g g.Lead).Log (N9 g g.Lead).Log.length
theorem DD7 {r : E6} {t : Int} (h : GR r t) (n : Nat) : (∀ x ∈ AE9 (r.Log.take n), S1 x = true) ∧ (AE9 (r.Log.take n)).length ≤ 60 := by
  refine ⟨fun x hx => ?_, ?_⟩
  · obtain ⟨e, he, rfl⟩ := Y0.1 hx
    exact (h.ents e (AU0 he)).2.2
  · unfold AE9
    rw [A7];exact L8 (List.length_take_le' _ _) h.len
theorem An8 {r : E6} {t : Int} (h : GR r t) (n : Nat) : GS (BO7 r.Log n) := CC2 BM5 (DD7 h n).1
theorem Cb8 : ∀ {l : List E6} {b : E6}, l.foldl (fun b r => if b.Sure < r.Sure then r else b) b = b ∨ l.foldl (fun b r => if b.Sure < r.Sure then r else b) b ∈ l
  | [], b => .inl rfl
  | r :: l, b => by
    rw [List.foldl_cons];rcases Cb8 (l := l) (b := if b.Sure < r.Sure then r else b) with h | h
    · rw [h]
      split
      · exact .inr Y9
      · exact .inl rfl
    · exact .inr (Q2 _ h)
theorem Bg8 {g : C4} (h : GG g) : AQ0 g ∈ g.Reps := by
  rcases Cb8 (l := g.Reps) (b := N9 g 0) with e | e
  · unfold AQ0; rw [e]
    exact AE6 ⟨Int.le_refl 0, by rcases h.many with k | k <;> omega⟩
  · exact e
theorem BH8 {g : C4} (h : GG g) : GS (AZ3 g) := An8 (h.reps _ (Bg8 h)) _
theorem BC1 {g : C4} (h : GG g) (hl : 0 ≤ g.Lead) : 0 ≤ g.Lead ∧ g.Lead < g.Reps.length := by
  rcases h.lead with e | ⟨a, b, _⟩
  · omega
  · exact ⟨a, b⟩
theorem Aj5 {g : C4} (h : GG g) (hl : 0 ≤ g.Lead) : GS (e6 g) := An8 (h.reps _ (AE6 (BC1 h hl))) _
theorem AK5 {g : C4} (h : GG g) (hl : 0 ≤ g.Lead) : GS (X7 g) := An8 (h.reps _ (AE6 (BC1 h hl))) _
theorem AI1 {g : C4} (h : AO1 g = true) : 0 ≤ g.Lead := by
  unfold AO1 at h;rw [E8, H1] at h;exact h.1
structure StK (s : D9) : Prop where
  cells : ∀ c ∈ s.Cells, c.Key ∈ u5
  held : ∀ h ∈ s.Held, ∀ w ∈ h.Writes, w.Key ∈ u5
theorem stk_zero : StK T8 := ⟨fun c hc => (by cases hc), fun h hh => (by cases hh)⟩
theorem CK3 {k : Str} {v : O3} : ∀ {l : List B1} {c : B1}, c ∈ AD0 l k v → c.Key = k ∨ ∃ d ∈ l, d.Key = c.Key
  | [], c, h => by
    unfold AD0 at h;rw [Z5.1 h]; exact .inl rfl
  | d :: l, c, h => by
    unfold AD0 at h;split at h
    · rcases Q0.1 h with rfl | h
      · exact .inr ⟨c, Y9, rfl⟩
      · rcases CK3 h with e | ⟨x, hx, e⟩
        · exact .inl e
        · exact .inr ⟨x, Q2 _ hx, e⟩
    · split at h
      · rcases Q0.1 h with rfl | h
        · exact .inl rfl
        · exact .inr ⟨c, Q2 _ h, rfl⟩
      · rcases Q0.1 h with rfl | h
        · exact .inl rfl
        · exact .inr ⟨c, h, rfl⟩
theorem CK4 {t : Int} : ∀ {w : List A4} {l q : List B1}, Z4 l w t = some q → (∀ c ∈ l, c.Key ∈ u5) → (∀ x ∈ w, x.Key ∈ u5) → ∀ c ∈ q, c.Key ∈ u5
  | [], l, q, e, hl, _ => by simp [Z4] at e; subst e; exact hl
  | x :: w, l, q, e, hl, hw => by
    unfold Z4 at e;split at e
    · cases e
    · refine CK4 e (fun c hc => ?_) fun y hy => hw y (Q2 _ hy)
      unfold w7 at hc;rcases CK3 hc with h | ⟨d, hd, h⟩
      · rw [h]; exact hw x Y9
      · rw [← h]; exact hl d hd
theorem DD8 {s : D9} (g : StK s) {r : M5} (hr : Aj0 r) (h : (U4 s r).2 = true) : StK (U4 s r).1 := by
  have hless : ∀ n, ∀ h ∈ o7 s.Held n, ∀ w ∈ h.Writes, w.Key ∈ u5 := fun n h hh => g.held h (AW8.1 hh).1;unfold U4 at h ⊢;by_cases h4 : r.Kind = 4
  · rw [D0 h4]; exact ⟨g.cells, g.held⟩
  · rw [C6 h4] at h ⊢
    by_cases hT : AM2 s.Told r.Txn = true
    · rw [D0 hT] at h; cases h
    · rw [C6 hT] at h ⊢
      by_cases h1 : r.Kind = 1
      · rw [D0 h1]
        refine ⟨g.cells, fun x hx => ?_⟩;rcases Ad3.1 hx with rfl | hx
        · exact hr
        · exact g.held x hx
      · rw [C6 h1] at h ⊢
        by_cases hy : r.Yes = true
        · rw [D0 hy] at h ⊢
          cases hf : AB3 s.Held r.Txn with
          | none => rw [hf] at h; cases h
          | some k =>
            rw [hf] at h;dsimp only at h ⊢;by_cases hlt : r.Time < k.Time
            · rw [D0 hlt] at h; cases h
            · rw [C6 hlt] at h ⊢
              by_cases hp : (AE2 s.Cells k.Writes r.Time).2 = true
              · rw [D0 hp]
                obtain ⟨p1, _⟩ := Bg3 hp;exact ⟨CK4 p1 g.cells (g.held k (Ag3 hf).1), hless _⟩
              · rw [C6 hp] at h; cases h
        · rw [C6 hy]; exact ⟨g.cells, hless _⟩
theorem stk_step {s : D9} (g : StK s) {r : M5} (hr : Aj0 r) : StK (AD8 s r) := by
  unfold AD8;split
  · exact DD8 g hr ‹_›
  · exact g
theorem Cb9 : ∀ {l : List M5} {s : D9}, StK s → (∀ r ∈ l, Aj0 r) → StK (V9 s l)
  | [], s, g, _ => g
  | r :: l, s, g, h => by
    show StK (V9 (AD8 s r) l)
    exact Cb9 (stk_step g (h r Y9)) fun x hx => h x (Q2 _ hx)
theorem Cw1 {l : List I5} (h : ∀ e ∈ l, Aj0 e.Rec) (n : Nat) : StK (BO7 l n) := Cb9 stk_zero fun r hr => by
  obtain ⟨e, he, rfl⟩ := Y0.1 hr;exact h e (AU0 he)
theorem DD9 {g : C4} (h : GG g) (k : AJ8 Aj0 g) : StK (AZ3 g) := Cw1 (k _ (Bg8 h)) _
theorem CK5 {α : Type} {r : α → α → Prop} (asym : ∀ x y, r x y → ¬ r y x) : ∀ {a b : List α}, a.Pairwise r → b.Pairwise r → (∀ x, x ∈ a ↔ x ∈ b) → a = b
  | [], [], _, _, _ => rfl
  | [], y :: b, _, _, h => by have := (h y).2 Y9; cases this
  | x :: a, [], _, _, h => by have := (h x).1 Y9; cases this
  | x :: a, y :: b, ha, hb, h => by
    obtain ⟨a1, a2⟩ := n4.1 ha;obtain ⟨b1, b2⟩ := n4.1 hb;have hxy : x = y := by
      rcases Q0.1 ((h x).1 Y9) with e | e
      · exact e
      · rcases Q0.1 ((h y).2 Y9) with e2 | e2
        · exact e2.symm
        · exact (asym _ _ (a1 y e2) (b1 x e)).elim
    subst hxy;congr 1
    refine CK5 asym a2 b2 fun z => ⟨fun hz => ?_, fun hz => ?_⟩
    · rcases Q0.1 ((h z).1 (Q2 _ hz)) with e | e
      · subst e; exact (asym _ _ (a1 z hz) (a1 z hz)).elim
      · exact e
    · rcases Q0.1 ((h z).2 (Q2 _ hz)) with e | e
      · subst e; exact (asym _ _ (b1 z hz) (b1 z hz)).elim
      · exact e
def lookW (l : List A4) (k : Str) : Option A4 := l.find? fun w => w.Key == k
theorem AD4 {l : List A4} {k : Str} {w : A4} (h : lookW l k = some w) : w ∈ l ∧ w.Key = k := by
  unfold lookW at h;exact ⟨Ah0 h, by simpa using List.find?_some h⟩
theorem BT4 {l : List A4} {k : Str} (h : lookW l k = none) : ∀ w ∈ l, w.Key ≠ k := fun w hw e => by
  have := List.find?_eq_none.1 h w hw;simp [e] at this
theorem Cp9 {x y : A4} : ∀ {l : List A4}, l.Pairwise (fun a b => N3 a b = true) → x ∈ l → y ∈ l → x.Key = y.Key → x = y
  | [], _, h, _, _ => by cases h
  | z :: l, hp, hx, hy, e => by
    obtain ⟨h1, h2⟩ := n4.1 hp;rcases Q0.1 hx with ex | hx'
    · rcases Q0.1 hy with ey | hy'
      · rw [ex, ey]
      · exfalso; have := h1 y hy'; unfold N3 at this; rw [← ex, e, I7] at this; cases this
    · rcases Q0.1 hy with ey | hy'
      · exfalso; have := h1 x hx'; unfold N3 at this; rw [← ey, e, I7] at this; cases this
      · exact Cp9 h2 hx' hy' e
theorem BH9 {l : List A4} (ha : adj N3 l = true) {w : A4} (hw : w ∈ l) : lookW l w.Key = some w := by
  cases h : lookW l w.Key with
  | none => exact absurd rfl (BT4 h w hw)
  | some x =>
    obtain ⟨hx, hk⟩ := AD4 h;have hp := (p6 Y7).1 ha;by_cases e : x = w
    · rw [e]
    · exact absurd (Cp9 hp hx hw hk) e
theorem Cc0 {a b : List A4} (ha : adj N3 a = true) (hb : adj N3 b = true) (h : ∀ k, lookW a k = lookW b k) : a = b := by
  refine CK5 (r := fun x y => N3 x y = true) (fun x y hxy hyx => ?_) ((p6 Y7).1 ha) ((p6 Y7).1 hb) fun x => ⟨fun hx => ?_, fun hx => ?_⟩
  · have := Y7 _ _ _ hxy hyx
    unfold N3 at this; rw [I7] at this; cases this
  · have := BH9 ha hx; rw [h] at this; exact (AD4 this).1
  · have := BH9 hb hx; rw [← h] at this; exact (AD4 this).1
theorem BI0 (w : A4) (k : Str) : ∀ {l : List A4}, adj N3 l = true → lookW (ins l w) k = if w.Key = k then some w else lookW l k
  | [], _ => by
    unfold ins lookW;by_cases h : w.Key = k
    · rw [D0 h, List.find?_cons_of_pos AO9]
    · rw [C6 h, List.find?_cons_of_neg AO9]
  | x :: l, ha => by
    have hp := (p6 Y7).1 ha;rw [n4] at hp;have ih := BI0 w k (l := l) ((p6 Y7).2 hp.2);unfold ins;split
    · rename_i hx
      unfold lookW at ih ⊢;by_cases hk : x.Key = k
      · rw [List.find?_cons_of_pos At8, List.find?_cons_of_pos At8]
        by_cases h : w.Key = k
        · exfalso; rw [hk, h, I7] at hx; cases hx
        · rw [C6 h]
      · rw [List.find?_cons_of_neg At8, List.find?_cons_of_neg At8, ih]
    · split
      · rename_i _ hx
        unfold lookW;by_cases h : w.Key = k
        · rw [D0 h, List.find?_cons_of_pos AO9]
        · rw [C6 h, List.find?_cons_of_neg AO9, List.find?_cons_of_neg (by rw [hx]; simpa using h)]
      · unfold lookW
        by_cases h : w.Key = k
        · rw [D0 h, List.find?_cons_of_pos AO9]
        · rw [C6 h, List.find?_cons_of_neg AO9]
theorem Bo0 {k : Str} : ∀ {ws l : List A4}, adj N3 l = true → k ∉ Q3 ws → lookW (m4 l ws) k = lookW l k
  | [], _, _, _ => rfl
  | w :: ws, l, ha, h => by
    unfold Q3 at h;rw [U8, Q0, not_or] at h;show lookW (m4 (ins l w) ws) k = _
    rw [Bo0 (AZ6 ha) h.2, BI0 w k ha, C6 (fun e => h.1 e.symm)]
theorem Bu6 {w : A4} : ∀ {ws l : List A4}, adj N3 l = true → adj N3 ws = true → w ∈ ws → lookW (m4 l ws) w.Key = some w
  | [], _, _, _, h => by cases h
  | x :: ws, l, ha, hw, h => by
    have hp := (p6 Y7).1 hw;rw [n4] at hp;show lookW (m4 (ins l x) ws) w.Key = _
    rcases Q0.1 h with rfl | h
    · rw [Bo0 (AZ6 ha) (fun hk => by
        obtain ⟨y, hy, e⟩ := Y0.1 hk;have := hp.1 y hy;unfold N3 at this; rw [e, I7] at this; cases this), BI0 _ _ ha, D0 rfl]
    · exact Bu6 (AZ6 ha) ((p6 Y7).2 hp.2) h
theorem Ck7 {l : List A4} (ha : adj N3 l = true) (k : Str) : lookW (AZ2 l) k = (lookW l k).filter fun w => !w.Gone := by
  have hl : adj N3 (AZ2 l) = true := Bs2 _ ha
  cases h : lookW l k with
  | none =>
    rw [Option.filter_none]
    cases h2 : lookW (AZ2 l) k with
    | none => rfl
    | some x =>
      obtain ⟨hx, hk⟩ := AD4 h2;exact absurd hk (BT4 h x (List.mem_filter.1 hx).1)
  | some w =>
    obtain ⟨hw, hk⟩ := AD4 h
    cases hg : w.Gone with
    | false =>
      have : w ∈ AZ2 l := List.mem_filter.2 ⟨hw, by rw [hg]; rfl⟩;have h3 := BH9 hl this;rw [hk] at h3;rw [h3, Option.filter_some, D0 (by rw [hg]; rfl)]
    | true =>
      rw [Option.filter_some, C6 (by rw [hg]; decide)]
      cases h2 : lookW (AZ2 l) k with
      | none => rfl
      | some x =>
        obtain ⟨hx, hk2⟩ := AD4 h2;obtain ⟨hx1, hx2⟩ := List.mem_filter.1 hx;have h4 := BH9 ha hx1;rw [hk2, h] at h4;injection h4 with h4
        subst h4;rw [hg] at hx2; cases hx2
def putD (rows ws : List A4) : List A4 := AZ2 (m4 rows ws)
theorem putD_adj {rows ws : List A4} (h : adj N3 rows = true) : adj N3 (putD rows ws) = true := Bs2 _ (AF7 h)
theorem CK6 {rows ws : List A4} (h : adj N3 rows = true) (k : Str) : lookW (putD rows ws) k = (lookW (m4 rows ws) k).filter fun w => !w.Gone := Ck7 (AF7 h) k
def Cg0 (l : List A4) : Prop := adj N3 l = true ∧ (∀ w ∈ l, w.Gone = false ∧ AO7 w = true)
theorem DE0 {rows : List A4} (h : Cg0 rows) (k : Str) : (lookW rows k).filter (fun w => !w.Gone) = lookW rows k := by
  cases e : lookW rows k with
  | none => rfl
  | some w => rw [Option.filter_some, D0 (by rw [(h.2 w (AD4 e).1).1]; rfl)]
theorem putD_out {rows ws : List A4} (h : Cg0 rows) {k : Str} (hk : k ∉ Q3 ws) : lookW (putD rows ws) k = lookW rows k := by
  rw [CK6 h.1, Bo0 h.1 hk, DE0 h]
def BJ2 (g : K8) : Bool := f6 g.Key && AG1 g.Val (!g.There)
def AY7 (p : List K8) : List K8 → Bool
  | [] => true
  | g :: l => (BJ2 g && !(p.any fun h => h.Key == g.Key)) && AY7 (p ++ [g]) l
def AW2 (l : List K8) : Bool := AY7 [] l && decide ((l.length : Int) ≤ 8)
def leS (c k : Str) : Bool := Op.bytesLess c k || c == k
def q7 (l : List Str) (k : Str) : Nat := (l.takeWhile fun c => leS c k).length
def Bp8 (l : List Str) : Bool := decide ((l.length : Int) < 4) && g7 l
def AW3 (l : List Str) : Bool := (l.all n1 && adj Op.bytesLess l) && decide ((l.length : Int) < 4)
theorem Ck8 (l : List Str) : Bp8 l = AW3 l := by
  unfold Bp8 AW3 g7;rw [Bool.and_comm];congr 1; congr 1
  induction l with
  | nil => rfl
  | cons x l ih => rw [p8, p8, ih, AA7]
theorem Bo1 (l : List Str) (k : Str) : q7 l k ≤ l.length := (List.takeWhile_sublist _).length_le
theorem Bo2 {k : Str} : ∀ {l : List Str} {i : Nat} {c : Str}, l[i]? = some c → (i < q7 l k → leS c k = true) ∧ (i = q7 l k → leS c k = false)
  | [], i, c, h => by simp at h
  | d :: l, i, c, h => by
    unfold q7
    cases hd : leS d k with
    | true =>
      rw [List.takeWhile_cons_of_pos (p := fun c => leS c k) hd, H8]
      cases i with
      | zero => simp at h; subst h; exact ⟨fun _ => hd, fun e => by omega⟩
      | succ i =>
        have ih := Bo2 (k := k) (l := l) (i := i) (c := c) AO9;unfold q7 at ih;exact ⟨fun hl => ih.1 qz8, fun e => ih.2 qz8⟩
    | false =>
      rw [List.takeWhile_cons_of_neg (p := fun c => leS c k) (by rw [hd]; decide)];refine ⟨fun hl => by simp at hl, fun e => ?_⟩;simp at e; subst e;simp at h; subst h; exact hd
def At5 (l : List Str) : Bool := within (l.length : Int) 1 8 && g7 l
def AT7 (w : C9) (t : B2) : Bool := ((((((AE8 t.Ops && decide (0 < (t.Ops.length : Int))) && AW2 t.Got) && ((t.Terms.length : Int) == (w.Groups.length : Int))) && (t.Terms.all fun n => within n 0 200)) && within t.Begin (-1) w.Count) && within t.End (-1) w.Count) && isTrue t.Time
def AN0 (l : List K8) (ks : List Str) : Bool := (List.range l.length).all fun i => match l[i]?, ks[i]? with
  | some g, some k => g.Key == k
  | _, _ => false
def s5 (w : C9) (l : B6) : Bool := (((((((within l.Node 0 ((w.Clocks.length : Int) - 1) && At5 l.Keys) && decide ((l.Got.length : Int) ≤ (l.Keys.length : Int))) && AW2 l.Got) && AN0 l.Got l.Keys) && isTrue l.Time) && within l.Begin (-1) w.Count) && within l.End (-1) w.Count)
def AJ0 (w : C9) : Bool := ((((decide ((w.Cuts.length : Int) ≤ 2) && AW3 w.Cuts) && ((w.Groups.length : Int) == (w.Cuts.length : Int) + 1)) && ((w.Locks.length : Int) == (w.Cuts.length : Int) + 1)) && ((w.Promised.length : Int) == (w.Cuts.length : Int) + 1)) && ((w.Clocks.length : Int) == 3 * ((w.Cuts.length : Int) + 1))
def U7 (w : C9) : Bool := ((((((((AJ0 w && (w.Groups.all fun g => Z6 g && ((g.Reps.length : Int) == 3))) && w.Locks.all AM9) && w.Promised.all isTrue) && isTrue w.Now) && within w.Count 0 1000000) && (decide ((w.Txns.length : Int) ≤ 6) && decide ((w.Looks.length : Int) ≤ 4))) && (w.Clocks.all fun c => within c.Off (-5) 5)) && w.Txns.all (AT7 w)) && w.Looks.all (s5 w)
structure WD9 (w : C9) : Prop where
  size : w.size ≤ 1000000
  keys : ∀ g ∈ w.Groups, AJ8 Aj0 g
  ops : ∀ t ∈ w.Txns, ∀ o ∈ t.Ops, o.Key ∈ u5
  ends : ∀ t ∈ w.Txns, t.End = -1 ∨ t.Begin < t.End
  lends : ∀ l ∈ w.Looks, l.End = -1 ∨ l.Begin < l.End
structure GW (w : C9) : Prop where
  cuts : w.Cuts.length ≤ 2 ∧ AW3 w.Cuts = true
  groups : w.Groups.length = w.Cuts.length + 1 ∧ ∀ g ∈ w.Groups, GG g ∧ g.Reps.length = 3
  locks : w.Locks.length = w.Cuts.length + 1
  promised : w.Promised.length = w.Cuts.length + 1
  clocks : w.Clocks.length = 3 * (w.Cuts.length + 1) ∧ ∀ c ∈ w.Clocks, -5 ≤ c.Off ∧ c.Off ≤ 5
  now : 0 ≤ w.Now ∧ w.Now ≤ 100000
  count : 0 ≤ w.Count ∧ w.Count ≤ 1000000
  txns : w.Txns.length ≤ 6 ∧ ∀ t ∈ w.Txns, AT7 w t = true
  looks : w.Looks.length ≤ 4 ∧ ∀ l ∈ w.Looks, s5 w l = true
def AH9 (ss : List D9) (t : Int) : List A4 := (ss.map fun s => T3 s.Cells t).flatten
def M3 (ss : List D9) (t : Int) : List A4 := m4 [] (AH9 ss t)
def chg (f t : Int) (c : B1) : Bool := c.Vers.any fun v => decide (f < v.Time) && decide (v.Time ≤ t)
def chgS (f t : Int) (c : B1) : Bool := (AB2 c.Vers t).isSome && decide (f < ((AB2 c.Vers t).getD zV).Time)
def chK (p : B1 → Bool) (l : List B1) : List Str := (l.filter p).map B1.Key
def o0 (p : B1 → Bool) (ss : List D9) : List Str := (ss.map fun s => chK p s.Cells).flatten
def AP3 (rows : List A4) (k : Str) : A4 := (lookW rows k).getD ⟨k, [], true⟩
def Ab5 (k : Str) : A4 := ⟨k, [], true⟩
def chI (ss : List D9) (f t : Int) (rows : List A4) : List A4 := m4 [] ((o0 (chg f t) ss).map (AP3 rows))
def chS0 (ss : List D9) (f t : Int) : List A4 := m4 [] ((o0 (chgS f t) ss).map Ab5)
def over (l : List A4) (x : A4) : List A4 := l.map fun y => if y.Key = x.Key then x else y
def chS (ss : List D9) (f t : Int) : List A4 := (M3 ss t).foldl over (chS0 ss f t)
def chA (rows : List A4) (ks : List Str) : List A4 := m4 [] (ks.map (AP3 rows))
def chG (ks : List Str) : List A4 := m4 [] (ks.map Ab5)
def Aq7 (l : List A4) (x : A4) (k : Nat) : List A4 := over (l.take k) x ++ l.drop k
theorem CK7 {l ws : List A4} {w : A4} : m4 l (ws ++ [w]) = ins (m4 l ws) w := by unfold m4; rw [List.foldl_append]; rfl
theorem Bo3 {l a b : List A4} : m4 l (a ++ b) = m4 (m4 l a) b := by unfold m4; rw [List.foldl_append]
theorem CP3 {ss : List D9} {t : Int} {i : Nat} {s : D9} (h : ss[i]? = some s) : AH9 (ss.take (i + 1)) t = AH9 (ss.take i) t ++ T3 s.Cells t := by
  unfold AH9; rw [T5, h, X1, AU1]; simp
theorem CK8 {p : B1 → Bool} {ss : List D9} {i : Nat} {s : D9} (h : ss[i]? = some s) : o0 p (ss.take (i + 1)) = o0 p (ss.take i) ++ chK p s.Cells := by
  unfold o0; rw [T5, h, X1, AU1]; simp
theorem Cq0 {p : B1 → Bool} {l : List B1} {i : Nat} {c : B1} (h : l[i]? = some c) (hp : p c = true) : chK p (l.take (i + 1)) = chK p (l.take i) ++ [c.Key] := by
  unfold chK; rw [T5, h, List.filter_append, X1, Option.toList_some, List.filter_cons_of_pos hp]; rfl
theorem chK_no {p : B1 → Bool} {l : List B1} {i : Nat} {c : B1} (h : l[i]? = some c) (hp : p c = false) : chK p (l.take (i + 1)) = chK p (l.take i) := by
  unfold chK; rw [T5, h, List.filter_append, X1, Option.toList_some, List.filter_cons_of_neg (by rw [hp]; decide)]; simp
theorem CE0 (p : B1 → Bool) (l : List B1) : (chK p l).length ≤ l.length := by unfold chK; rw [A7]; exact List.length_filter_le _ _
theorem Cc1 {p : B1 → Bool} {m : Nat} : ∀ {ss : List D9}, (∀ s ∈ ss, s.Cells.length ≤ m) → (o0 p ss).length ≤ ss.length * m
  | [], _ => E2 _
  | s :: ss, h => by
    have h1 := Cc1 (p := p) (ss := ss) fun x hx => h x (Q2 _ hx);have h2 := CE0 p s.Cells;have h3 := h s Y9;unfold o0 at h1 ⊢;rw [U8, AJ4, H3, H8, Nat.succ_mul]; omega
theorem Bb4 {t : Int} {m : Nat} : ∀ {ss : List D9}, (∀ s ∈ ss, s.Cells.length ≤ m) → (AH9 ss t).length ≤ ss.length * m
  | [], _ => E2 _
  | s :: ss, h => by
    have h1 := Bb4 (t := t) (ss := ss) fun x hx => h x (Q2 _ hx);have h2 := Ai4 s.Cells t;have h3 := h s Y9;unfold AH9 at h1 ⊢;rw [U8, AJ4, H3, H8, Nat.succ_mul]; omega
theorem BI1 {k : Str} : ∀ {ws l : List A4}, adj N3 l = true → lookW (m4 l ws) k = ((ws.filter fun w => w.Key == k).getLast?).or (lookW l k)
  | [], _, _ => rfl
  | w :: ws, l, ha => by
    show lookW (m4 (ins l w) ws) k = _
    rw [BI1 (AZ6 ha), BI0 w k ha];by_cases h : w.Key = k
    · rw [D0 h, List.filter_cons_of_pos AO9, List.getLast?_cons]
      cases (ws.filter fun w => w.Key == k).getLast? <;> rfl
    · rw [C6 h, List.filter_cons_of_neg AO9]
theorem Bo4 {k : Str} {g : Str → A4} (hg : ∀ x, (g x).Key = x) (ks : List Str) : lookW (m4 [] (ks.map g)) k = if k ∈ ks then some (g k) else none := by
  rw [BI1 rfl];have e : (ks.map g).filter (fun w => w.Key == k) = (ks.filter (· == k)).map g := by
    rw [List.filter_map]; congr 1;refine List.filter_congr fun x _ => ?_;show ((g x).Key == k) = (x == k)
    rw [hg]
  rw [e, List.getLast?_map];by_cases h : k ∈ ks
  · rw [D0 h]
    have h1 : k ∈ ks.filter (· == k) := List.mem_filter.2 ⟨h, by simp⟩
    cases h2 : (ks.filter (· == k)).getLast? with
    | none => rw [List.getLast?_eq_none_iff] at h2; rw [h2] at h1; cases h1
    | some y =>
      have h3 := List.mem_of_getLast? h2;have h4 : y = k := by simpa using (List.mem_filter.1 h3).2
      rw [h4]; rfl
  · rw [C6 h]
    have h1 : ks.filter (· == k) = [] := List.filter_eq_nil_iff.2 fun x hx e => h (by rw [← show x = k by simpa using e]; exact hx);rw [h1]; rfl
theorem Bo5 {rows : List A4} (k : Str) : (AP3 rows k).Key = k := by
  unfold AP3
  cases h : lookW rows k with
  | none => rfl
  | some w => exact (AD4 h).2
theorem DE1 {l : List A4} {x : A4} : Q3 (over l x) = Q3 l := by
  unfold Q3 over;rw [List.map_map];refine List.map_congr_left fun y _ => ?_;show (if y.Key = x.Key then x else y).Key = y.Key
  split
  · rename_i h; exact h.symm
  · rfl
theorem Cc2 : ∀ {a : List A4}, adj N3 a = adj Op.bytesLess (Q3 a)
  | a => (BM2 A4.Key Op.bytesLess a).symm
theorem over_adj {l : List A4} {x : A4} (h : adj N3 l = true) : adj N3 (over l x) = true := by
  rw [Cc2, DE1, ← Cc2]; exact h
theorem CK9 : ∀ {rows l : List A4}, adj N3 l = true → adj N3 (rows.foldl over l) = true
  | [], _, h => h
  | x :: rows, l, h => CK9 (rows := rows) (l := over l x) (over_adj h)
theorem CL0 {k : Str} {x : A4} : ∀ {l : List A4}, lookW (over l x) k = (lookW l k).map fun y => if x.Key = k then x else y
  | [] => rfl
  | y :: l => by
    have ih := CL0 (k := k) (x := x) (l := l);unfold lookW over at ih ⊢;rw [U8];by_cases h : y.Key = k
    · rw [List.find?_cons_of_pos (by split <;> simp_all), List.find?_cons_of_pos AO9, r6, h]
      by_cases h2 : x.Key = k
      · rw [D0 h2, D0 h2.symm]
      · rw [C6 h2, C6 (fun e => h2 e.symm)]
    · rw [List.find?_cons_of_neg (by split <;> simp_all), List.find?_cons_of_neg AO9, ih]
theorem Bu7 {k : Str} : ∀ {rows l : List A4}, adj N3 rows = true → lookW (rows.foldl over l) k = (lookW l k).map fun y => (lookW rows k).getD y
  | [], l, _ => by
    show lookW l k = _
    cases lookW l k <;> rfl
  | x :: rows, l, h => by
    have ht := (p6 Y7).1 h;rw [n4] at ht;show lookW (rows.foldl over (over l x)) k = _
    rw [Bu7 ((p6 Y7).2 ht.2), CL0, Option.map_map];congr 1
    funext y
    show (lookW rows k).getD (if x.Key = k then x else y) = (lookW (x :: rows) k).getD y
    by_cases hk : x.Key = k
    · have h1 : lookW rows k = none := by
        cases h2 : lookW rows k with
        | none => rfl
        | some w =>
          exfalso
          have h3 := AD4 h2;have h4 := ht.1 w h3.1;unfold N3 at h4; rw [hk, h3.2, I7] at h4; cases h4
      rw [D0 hk, h1, show lookW (x :: rows) k = some x from List.find?_cons_of_pos At8]; rfl
    · rw [C6 hk, show lookW (x :: rows) k = lookW rows k from List.find?_cons_of_neg At8]
theorem Cc3 {t : Int} : ∀ {vs : List O3}, adj n9 vs = true → ∀ {v : O3}, v ∈ vs → v.Time ≤ t → ∃ u, AB2 vs t = some u ∧ v.Time ≤ u.Time
  | [], _, _, h, _ => by cases h
  | w :: vs, ha, v, h, ht => by
    have tr : ∀ a b c : O3, n9 a b = true → n9 b c = true → n9 a c = true := fun a b c h1 h2 => by
      unfold n9 at *; rw [H1] at *; omega
    have hp := (p6 tr).1 ha;rw [n4] at hp;have hat : AB2 (w :: vs) t = (AB2 vs t).or (if w.Time ≤ t then some w else none) := by
      unfold AB2;rw [List.reverse_cons, List.find?_append];congr 1
      by_cases hw : w.Time ≤ t
      · rw [D0 hw]; exact List.find?_cons_of_pos (by simpa using hw)
      · rw [C6 hw]; exact (List.find?_cons_of_neg (by simpa using hw)).trans rfl
    rcases Q0.1 h with rfl | h
    · cases h2 : AB2 vs t with
      | none => exact ⟨v, by rw [hat, h2, D0 ht]; rfl, Int.le_refl _⟩
      | some u =>
        have h3 : u ∈ vs := by have := Ah0 h2; exact List.mem_reverse.1 this
        have h4 := hp.1 u h3;unfold n9 at h4; rw [H1] at h4;exact ⟨u, by rw [hat, h2]; rfl, by omega⟩
    · obtain ⟨u, hu, hle⟩ := Cc3 ((p6 tr).2 hp.2) h ht
      exact ⟨u, by rw [hat, hu]; rfl, hle⟩
theorem Cq1 {vs : List O3} {t : Int} {u : O3} (h : AB2 vs t = some u) : u ∈ vs ∧ u.Time ≤ t :=
  ⟨List.mem_reverse.1 (Ah0 h), by simpa using List.find?_some h⟩
theorem chg_eq {c : B1} (ha : adj n9 c.Vers = true) (f t : Int) : chgS f t c = chg f t c := by
  unfold chgS chg;rw [AO5, List.any_eq_true];constructor
  · intro h
    rw [E8, H1] at h;obtain ⟨u, hu⟩ := Option.isSome_iff_exists.1 h.1;rw [hu] at h;have := Cq1 hu;exact ⟨u, this.1, by rw [E8, H1, H1]; exact ⟨h.2, this.2⟩⟩
  · rintro ⟨v, hv, h⟩
    rw [E8, H1, H1] at h;obtain ⟨u, hu, hle⟩ := Cc3 ha hv h.2;rw [hu, E8, H1];exact ⟨rfl, by show f < u.Time; omega⟩
theorem find_congr {α : Type} {p q : α → Bool} : ∀ {l : List α}, (∀ x ∈ l, p x = q x) → l.find? p = l.find? q
  | [], _ => rfl
  | x :: l, h => by
    rw [List.find?_cons, List.find?_cons, h x Y9, find_congr fun y hy => h y (Q2 _ hy)]
theorem ver_same {c : B1} {f t : Int} (hft : f ≤ t) (h : chg f t c = false) : Z8 c f = Z8 c t := by
  have : AB2 c.Vers f = AB2 c.Vers t := by
    unfold AB2;refine find_congr fun v hv => ?_;have h1 : (decide (f < v.Time) && decide (v.Time ≤ t)) = false := by
      have := List.any_eq_false.1 h v (List.mem_reverse.1 hv); simpa using this
    rw [AO5, H1, H1];simp only [Bool.and_eq_false_iff, w5] at h1;omega
  rw [AP6, AP6, this]
theorem Ae0 (ss : List D9) (t : Int) : adj N3 (M3 ss t) = true := AF7 rfl
theorem DE2 {p q : B1 → Bool} {l : List B1} (h : ∀ c ∈ l, p c = q c) : chK p l = chK q l := by
  unfold chK; rw [List.filter_congr h]
theorem Bu8 {p q : B1 → Bool} : ∀ {ss : List D9}, (∀ s ∈ ss, ∀ c ∈ s.Cells, p c = q c) → o0 p ss = o0 q ss
  | [], _ => rfl
  | s :: ss, h => by
    have ih := Bu8 (ss := ss) fun x hx => h x (Q2 _ hx);unfold o0 at ih ⊢;rw [U8, U8, AJ4, AJ4, ih, DE2 (h s Y9)]
def AD1 (ss : List D9) : Prop := ∀ s ∈ ss, m5 s.Cells = true
theorem Ck9 {ss : List D9} (h : AD1 ss) {s : D9} (hs : s ∈ ss) {c : B1} (hc : c ∈ s.Cells) : adj n9 c.Vers = true := ((W6 (h s hs)).2.2 c hc).2.2.2.1
theorem chS_eq {ss : List D9} (h : AD1 ss) (f t : Int) : chS ss f t = chI ss f t (M3 ss t) := by
  have hk : o0 (chgS f t) ss = o0 (chg f t) ss := Bu8 fun s hs c hc => chg_eq (Ck9 h hs hc) f t;refine Cc0 (CK9 (AF7 rfl)) (AF7 rfl) fun k => ?_;unfold chS chS0 chI;rw [Bu7 (Ae0 ss t), hk, Bo4 (g := Ab5) (fun _ => rfl), Bo4 (g := AP3 (M3 ss t)) (fun x => Bo5 x)];split
  · rfl
  · rfl
theorem BT5 {p : B1 → Bool} {ss : List D9} {k : Str} : k ∈ o0 p ss ↔ ∃ s ∈ ss, ∃ c ∈ s.Cells, p c = true ∧ c.Key = k := by
  unfold o0 chK;simp only [List.mem_flatten, Y0];constructor
  · rintro ⟨_, ⟨s, hs, rfl⟩, h⟩
    obtain ⟨c, hcp, e⟩ := Y0.1 h;obtain ⟨hc, hp⟩ := List.mem_filter.1 hcp;exact ⟨s, hs, c, hc, hp, e⟩
  · rintro ⟨s, hs, c, hc, hp, e⟩
    exact ⟨_, ⟨s, hs, rfl⟩, Y0.2 ⟨c, List.mem_filter.2 ⟨hc, hp⟩, e⟩⟩
theorem Bj7 {k : Str} {f t : Int} : ∀ {l : List B1}, (∀ c ∈ l, c.Key = k → Z8 c f = Z8 c t) → (T3 l f).filter (fun w => w.Key == k) = (T3 l t).filter fun w => w.Key == k
  | [], _ => rfl
  | c :: l, h => by
    have ih := Bj7 (l := l) fun x hx => h x (Q2 _ hx);rw [BZ7, BZ7, List.filter_append, List.filter_append, ih];congr 1
    by_cases hk : c.Key = k
    · rw [h c Y9 hk]
    · have : ∀ a : Int, (if (Z8 c a).2 = true then [(⟨c.Key, (Z8 c a).1, false⟩ : A4)] else []).filter (fun w => w.Key == k) = [] := fun a => by
        split
        · rw [List.filter_cons_of_neg At8]; rfl
        · rfl
      rw [this, this]
theorem Bb5 {k : Str} {f t : Int} : ∀ {ss : List D9}, (∀ s ∈ ss, ∀ c ∈ s.Cells, c.Key = k → Z8 c f = Z8 c t) → (AH9 ss f).filter (fun w => w.Key == k) = (AH9 ss t).filter fun w => w.Key == k
  | [], _ => rfl
  | s :: ss, h => by
    have ih := Bb5 (ss := ss) fun x hx => h x (Q2 _ hx);unfold AH9 at ih ⊢;rw [U8, U8, AJ4, AJ4, List.filter_append, List.filter_append, ih, Bj7 (h s Y9)]
theorem Ak5 {ss : List D9} (h : AD1 ss) (t : Int) : Cg0 (M3 ss t) := by
  refine ⟨Ae0 ss t, fun w hw => ?_⟩;rcases BD3 hw with h1 | h1
  · unfold AH9 at h1
    obtain ⟨l, hl, hwl⟩ := List.mem_flatten.1 h1;obtain ⟨s, hs, rfl⟩ := Y0.1 hl;unfold T3 at hwl;obtain ⟨c, hc, e⟩ := List.mem_filterMap.1 hwl;have hf := (W6 (h s hs)).2.2 c hc;by_cases hv : (Z8 c t).2 = true
    · rw [D0 hv] at e
      injection e with e; subst e
      rw [AP6] at hv
      cases hu : AB2 c.Vers t with
      | none => rw [hu] at hv; cases hv
      | some u =>
        rw [hu] at hv;have hm := hf.2.2.2.2 u (Cq1 hu).1;have hgn : u.Gone = false := by simpa using hv
        refine ⟨rfl, ?_⟩;rw [AP6, hu];unfold AN2 at hm;rw [E8, hgn, Ai2] at hm;have h8 := hm.2;rw [E8] at h8;unfold AO7 Ah4;rw [← AA7];show (f6 c.Key && AO6 u.Val && (!false || u.Val == [])) = true
        rw [hf.1, h8.1]; rfl
    · rw [C6 hv] at e; cases e
  · cases h1
theorem law_put {ss : List D9} (h : AD1 ss) {f t : Int} (hft : f ≤ t) : putD (M3 ss f) (chI ss f t (M3 ss t)) = M3 ss t := by
  have ha := Ak5 h f;have hb := Ak5 h t;refine Cc0 (putD_adj ha.1) hb.1 fun k => ?_;have hck : lookW (chI ss f t (M3 ss t)) k = if k ∈ o0 (chg f t) ss then some (AP3 (M3 ss t) k) else none := Bo4 (g := AP3 (M3 ss t)) (fun x => Bo5 x) _;have hca : adj N3 (chI ss f t (M3 ss t)) = true := AF7 rfl;by_cases hk : k ∈ o0 (chg f t) ss
  · rw [D0 hk] at hck
    obtain ⟨hm, hke⟩ := AD4 hck;rw [CK6 ha.1];have h1 := Bu6 ha.1 hca hm;rw [hke] at h1;rw [h1];unfold AP3
    cases h2 : lookW (M3 ss t) k with
    | none => rfl
    | some w =>
      have := (hb.2 w (AD4 h2).1).1;rw [Option.getD_some, Option.filter_some, D0 (by rw [this]; rfl)]
  · rw [C6 hk] at hck
    have hno : k ∉ Q3 (chI ss f t (M3 ss t)) := fun hm => by
      obtain ⟨w, hw, e⟩ := Y0.1 hm;exact BT4 hck w hw e
    rw [putD_out ha hno];unfold M3;rw [BI1 rfl, BI1 rfl, Bb5 fun s hs c hc e => ver_same hft ?_]
    cases hcg : chg f t c with
    | false => rfl
    | true => exact absurd (BT5.2 ⟨s, hs, c, hc, hcg, e⟩) hk
theorem law_none {ss : List D9} (t : Int) (rows : List A4) : chI ss t t rows = [] := by
  have : o0 (chg t t) ss = [] := by
    refine List.eq_nil_iff_forall_not_mem.2 fun k hk => ?_;obtain ⟨s, _, c, _, hp, _⟩ := BT5.1 hk;unfold chg at hp;obtain ⟨v, _, hv⟩ := List.any_eq_true.1 hp;rw [E8, H1, H1] at hv;omega
  unfold chI; rw [this]; rfl
theorem Bu9 {ss : List D9} {t : Int} (hk : ∀ s ∈ ss, ∀ c ∈ s.Cells, c.Key ∈ u5) : ∀ w ∈ M3 ss t, w.Key ∈ u5 := fun w hw => by
  rcases BD3 hw with h1 | h1
  · unfold AH9 at h1
    obtain ⟨l, hl, hwl⟩ := List.mem_flatten.1 h1;obtain ⟨s, hs, rfl⟩ := Y0.1 hl;unfold T3 at hwl;obtain ⟨c, hc, e⟩ := List.mem_filterMap.1 hwl;split at e
    · injection e with e; subst e; exact hk s hs c hc
    · cases e
  · cases h1
theorem Bo6 {l : List A4} (ha : adj N3 l = true) (hk : ∀ w ∈ l, w.Key ∈ u5) : l.length ≤ 8 := by
  have hp : (Q3 l).Nodup := by
    have h1 := (p6 Y7).1 ha;refine (List.pairwise_map.2 (h1.imp ?_) : (l.map A4.Key).Pairwise (· ≠ ·));intro a b hab e;unfold N3 at hab; rw [e, I7] at hab; cases hab
  have := Bm9 hp (b := u5) fun x hx => by obtain ⟨w, hw, e⟩ := Y0.1 hx; rw [← e]; exact hk w hw
  rw [show (Q3 l).length = l.length from A7 ..] at this;exact this
theorem BT6 {ss : List D9} (h : AD1 ss) (t : Int) (hk : ∀ s ∈ ss, ∀ c ∈ s.Cells, c.Key ∈ u5) : j5 (M3 ss t) = true := by
  have h1 := Ak5 h t;have h2 := Bo6 h1.1 (Bu9 hk);rw [AP5];unfold AK6;rw [h1.1, l5.2 fun w hw => (h1.2 w hw).2, i7 qz8]; rfl
theorem Bv0 {ss : List D9} {t : Int} {i : Nat} {s : D9} (h : ss[i]? = some s) : M3 (ss.take (i + 1)) t = m4 (M3 (ss.take i) t) (T3 s.Cells t) := by
  unfold M3; rw [CP3 h, Bo3]
theorem Bv1 {l ws : List A4} {j : Nat} {w : A4} (h : ws[j]? = some w) : m4 l (ws.take (j + 1)) = ins (m4 l (ws.take j)) w := by
  rw [T5, h]; exact CK7
theorem chA_app {rows : List A4} {a b : List Str} : chA rows (a ++ b) = m4 (chA rows a) (b.map (AP3 rows)) := by unfold chA; rw [X1, Bo3]
theorem chG_app {a b : List Str} : chG (a ++ b) = m4 (chG a) (b.map Ab5) := by unfold chG; rw [X1, Bo3]
theorem CL1 {l : List A4} {g : Str → A4} {ks : List Str} {k : Str} : m4 l ((ks ++ [k]).map g) = ins (m4 l (ks.map g)) (g k) := by rw [X1]; exact CK7
theorem chA_adj {rows : List A4} {ks : List Str} : adj N3 (chA rows ks) = true := AF7 rfl
theorem chG_adj {ks : List Str} : adj N3 (chG ks) = true := AF7 rfl
theorem Cq2 {rows : List A4} {ks : List Str} : (chA rows ks).length ≤ ks.length := by
  have := Ad1 (ws := ks.map (AP3 rows)) (l := []); rw [A7] at this; unfold chA; simpa using this
theorem Cq3 {ks : List Str} : (chG ks).length ≤ ks.length := by
  have := Ad1 (ws := ks.map Ab5) (l := []); rw [A7] at this; unfold chG; simpa using this
theorem As7 {l : List A4} {x : A4} : (over l x).length = l.length := A7 ..
theorem DE3 {l : List A4} {x : A4} {k : Nat} (h : k ≤ l.length) : (Aq7 l x k).length = l.length := by
  unfold Aq7; rw [H3, As7, F4, p7]; omega
theorem CL2 {l : List A4} {x : A4} {k : Nat} (h : k ≤ l.length) : (Aq7 l x k)[k]? = l[k]? := by
  unfold Aq7;rw [Ag9 (by rw [As7, F4]; omega), As7, F4, Nat.min_eq_left h, Nat.sub_self, AJ3, Nat.add_zero]
theorem DE4 {l : List A4} {x : A4} {k : Nat} (h : l.length ≤ k) : Aq7 l x k = over l x := by
  unfold Aq7; rw [P8 h, k6 h, Q6]
theorem Bv2 {l : List A4} {x y : A4} {k : Nat} (hy : l[k]? = some y) : Aq7 l x (k + 1) = (Aq7 l x k).set k (if y.Key = x.Key then x else y) := by
  have hk := (E9.1 hy).1;unfold Aq7;rw [List.set_append_right _ _ (by rw [As7, F4]; omega), As7, F4, Nat.min_eq_left (Nat.le_of_lt hk), Nat.sub_self, T5, hy];unfold over;rw [X1, f4];congr 1
  rw [List.drop_eq_getElem_cons hk, (E9.1 hy).2];rfl
theorem DE5 {l : List A4} {k : Nat} {y : A4} (h : l[k]? = some y) : l.set k y = l := by
  apply List.ext_getElem?
  intro j;by_cases e : k = j
  · subst e; rw [AO3 (E9.1 h).1, h]
  · rw [AY3 e]
theorem Cw2 {rows l : List A4} {i : Nat} {x : A4} (h : rows[i]? = some x) : (rows.take (i + 1)).foldl over l = over ((rows.take i).foldl over l) x := by
  rw [T5, h, List.foldl_append]; rfl
theorem CL3 : ∀ {rows l : List A4}, (rows.foldl over l).length = l.length
  | [], _ => rfl
  | x :: rows, l => (CL3 (rows := rows) (l := over l x)).trans As7
theorem BL2 {w : A4} (h : AO7 w = true) : w.size ≤ 36 := by
  unfold AO7 Ah4 at h;rw [E8, E8, ← AA7] at h;have h1 := BZ0 h.1.1;have h2 : AG1 w.Val w.Gone = true := by rw [Ai2, h.1.2, h.2]; rfl
  have h3 := Bs4 h2;show w.Key.length + w.Val.length ≤ 36
  omega
theorem Bb6 {ss : List D9} (h : AD1 ss) : ∀ s ∈ ss, s.Cells.length ≤ 24 := fun s hs => (W6 (h s hs)).1
theorem Au8 {ss : List D9} (h : AD1 ss) (i : Nat) : AD1 (ss.take i) := fun s hs => h s (AU0 hs)
theorem Cc4 {ss : List D9} (h : AD1 ss) (hl : ss.length ≤ 10) (t : Int) : (AH9 ss t).length ≤ 240 := by
  have h1 := Bb4 (t := t) (Bb6 h);omega
theorem Am0 {ss : List D9} (h : AD1 ss) (hl : ss.length ≤ 10) (t : Int) : (M3 ss t).length ≤ 240 := by
  have h1 := Ad1 (ws := AH9 ss t) (l := []);have h2 := Cc4 h hl t;unfold M3;rw [Q1] at h1; omega
theorem BT7 {ss : List D9} (h : AD1 ss) (hl : ss.length ≤ 10) (t : Int) : C7 A4.size (M3 ss t) ≤ 1048576 := by
  have h1 := y5 (f := A4.size) (c := 36) (l := M3 ss t) fun w hw => BL2 ((Ak5 h t).2 w hw).2;have h2 : (M3 ss t).length * (36 + 1) ≤ 240 * 37 := t6 _ (Am0 h hl t);omega
theorem BT8 {p : B1 → Bool} {ss : List D9} (h : AD1 ss) (hl : ss.length ≤ 10) : (o0 p ss).length ≤ 240 := by
  have h1 := Cc1 (p := p) (Bb6 h);omega
theorem DE6 {k : Str} (h : f6 k = true) : AO7 (Ab5 k) = true := by
  unfold AO7 Ah4 Ab5;rw [← AA7];dsimp only;rw [h]; rfl
theorem CL4 {ss : List D9} (h : AD1 ss) {t : Int} {k : Str} (hk : f6 k = true) : AO7 (AP3 (M3 ss t) k) = true := by
  unfold AP3
  cases e : lookW (M3 ss t) k with
  | none => exact DE6 hk
  | some w => exact ((Ak5 h t).2 w (AD4 e).1).2
theorem Cc5 {p : B1 → Bool} {ss : List D9} (h : AD1 ss) {k : Str} (hk : k ∈ o0 p ss) : f6 k = true := by
  obtain ⟨s, hs, c, hc, _, e⟩ := BT5.1 hk;rw [← e]; exact ((W6 (h s hs)).2.2 c hc).1
theorem Bo7 {ss : List D9} (h : AD1 ss) (hk : ∀ s ∈ ss, ∀ c ∈ s.Cells, c.Key ∈ u5) (f t : Int) : j5 (chI ss f t (M3 ss t)) = true := by
  have ha : adj N3 (chI ss f t (M3 ss t)) = true := AF7 rfl;have hm : ∀ w ∈ chI ss f t (M3 ss t), AO7 w = true ∧ w.Key ∈ u5 := fun w hw => by
    rcases BD3 hw with h1 | h1
    · obtain ⟨k, hkk, e⟩ := Y0.1 h1
      subst e;refine ⟨CL4 h (Cc5 h hkk), ?_⟩;rw [Bo5];obtain ⟨s, hs, c, hc, _, e⟩ := BT5.1 hkk;rw [← e]; exact hk s hs c hc
    · cases h1
  have h2 := Bo6 ha fun w hw => (hm w hw).2;rw [AP5];unfold AK6;rw [ha, l5.2 fun w hw => (hm w hw).1, i7 qz8]; rfl
theorem Bo8 {ss : List D9} (h : AD1 ss) (hl : ss.length ≤ 10) (f t : Int) : C7 A4.size (chI ss f t (M3 ss t)) ≤ 1048576 := by
  have h1 := y5 (f := A4.size) (c := 36) (l := chI ss f t (M3 ss t)) fun w hw => by
    rcases BD3 hw with h1 | h1
    · obtain ⟨k, hkk, e⟩ := Y0.1 h1
      subst e;exact BL2 (CL4 h (Cc5 h hkk))
    · cases h1
  have h3 : (chI ss f t (M3 ss t)).length ≤ 240 := L8 (Cq2 (rows := M3 ss t) (ks := o0 (chg f t) ss)) (BT8 h hl);omega
def BL7 (l : List A4) : Int := l.foldl (fun a w => a + (l5N w.Val).1) 0
theorem Bb7 {l : List A4} {i : Nat} {w : A4} (h : l[i]? = some w) : BL7 (l.take (i + 1)) = BL7 (l.take i) + (l5N w.Val).1 := by
  unfold BL7; rw [T5, h, List.foldl_append]; rfl
def J1 (w : C9) : List D9 := w.Groups.map AZ3
def f5 (w : C9) (t : Int) : List A4 × Bool := if (U7 w && isTrue t) = true then (M3 (J1 w) t, true) else ([], false)
def AJ1 (w : C9) (f t : Int) : List A4 × Bool := if ((U7 w && isTrue t) && (isTrue f && decide (f ≤ t))) = true then (chI (J1 w) f t (M3 (J1 w) t), true) else ([], false)
def At6 (w : C9) (t : Int) : Int × Bool := if (U7 w && isTrue t) = true then (BL7 (M3 (J1 w) t), true) else (0, false)
def Af1 (l ws : List A4) : List A4 × Bool := if (BO2 l && j5 ws) = true then AV9 l ws else ([], false)
structure SB (m : Int) (s : D9) : Prop where
  floor : 0 ≤ s.Floor ∧ s.Floor ≤ m
  leads : ∀ h ∈ s.Held, 0 ≤ h.Lead ∧ h.Lead ≤ 3
theorem DE7 {g : C4} {r : M5} (h : (AD9 g r).2 = true) : 0 ≤ g.Lead := by
  unfold AD9 at h;split at h
  · rename_i hc
    rw [E8] at hc;exact (Ai5.1 hc.1.1).2.1
  · cases h
theorem put_in {g : C4} {r : M5} (hc : (!((!Z6 g || decide (g.Lead < 0)) || !Aw8 r)) = true) : 0 ≤ g.Lead ∧ g.Lead < g.Reps.length := by
  simp only [i6, r5, AD5, w5] at hc;have gg := AK3.1 hc.1.1;rcases gg.lead with e | ⟨a, b, _⟩
  · have := hc.1.2; omega
  · exact ⟨a, b⟩
theorem Cw3 {g : C4} {r : M5} (hno : (AD9 g r).2 = false) (h : (((!Z6 g || decide (g.Lead < 0)) || !Aw8 r) || decide ((((N9 g g.Lead).Log.map I5.cs).length : Int) ≥ 60)) = false) : False := by
  rw [A7] at h;simp only [r5, AD5, w5] at h;have hl : Aa4 g = true := by unfold Aa4; rw [h.1.1.1, i7 (by have := h.1.1.2; omega)]; rfl
  unfold AD9 at hno;rw [D0 ⟨by rw [hl, Am9, h.1.2]; rfl, by have := h.2; omega⟩] at hno
  cases hno
theorem CS8 {α : Type} {l : List α} {i : Nat} {x : α} (hx : l[i]? = some x) : l.drop i = x :: l.drop (i + 1) := by
  obtain ⟨h, e⟩ := E9.1 hx;rw [← e]; exact List.drop_eq_getElem_cons h
theorem takeX {α : Type} {l : List α} {i : Nat} {x : α} (hx : l[i]? = some x) : l.take (i + 1) = l.take i ++ [x] := by rw [T5, hx]; rfl
theorem CL5 {l : List K8} {i : Nat} {x : K8} (hx : l[i]? = some x) : AY7 (l.take i) (l.drop i) = ((BJ2 x && !((l.take i).any fun h => h.Key == x.Key)) && AY7 (l.take (i + 1)) (l.drop (i + 1))) := by rw [CS8 hx, takeX hx]; rfl
theorem Cc6 {l : List K8} {i : Nat} (h : l.length ≤ i) : AY7 (l.take i) (l.drop i) = true := by rw [k6 h]; rfl
theorem CL6 {α : Type} {p : α → Bool} {l : List α} {i : Nat} {x : α} (hx : l[i]? = some x) : (l.drop i).any p = (p x || (l.drop (i + 1)).any p) := by rw [CS8 hx, Ab1]
theorem kcomm (a b : Str) : (a == b) = (b == a) := by rw [AO5, j0, j0]; exact eq_comm
theorem Cc7 {l : List K8} {i : Nat} {x : K8} (hx : l[i]? = some x) : x.Key.length ≤ C7 K8.size l ∧ x.Val.length ≤ C7 K8.size l := by
  have h := U6 (f := K8.size) hx;have h2 : x.size = x.Key.length + x.Val.length := rfl;omega
theorem getD_row {l : List Str} {i : Nat} (h : i < l.length) : (l.map fun s => [AV.str s])[((i : Nat) : Int).toNat]? = some [AV.str (l.getD i [])] := by
  rw [l4, X2, N6 h, r6, List.getD_eq_getElem?_getD, N6 h]; rfl
theorem Cc8 {l : List Str} {i : Nat} (h : i < l.length) : l[i]? = some (l.getD i []) := by
  rw [N6 h, List.getD_eq_getElem?_getD, N6 h]; rfl
theorem CL7 {l : List Str} {k : Str} {i : Nat} (hi : i ≤ q7 l k) (h : (decide ((i : Int) < (l.length : Int)) && leS (l.getD i []) k) = true) : i < l.length ∧ i + 1 ≤ q7 l k := by
  simp only [E8, H1] at h;have hl : i < l.length := by omega
  refine ⟨hl, ?_⟩;rcases Nat.lt_or_ge i (q7 l k) with h1 | h1
  · exact h1
  · have := (Bo2 (k := k) (Cc8 hl)).2 qz8
    rw [h.2] at this; cases this
theorem DE8 {l : List Str} {k : Str} {i : Nat} (hi : i ≤ q7 l k) (h : (decide ((i : Int) < (l.length : Int)) && leS (l.getD i []) k) = false) : i = q7 l k := by
  have hle := Bo1 l k;rcases Nat.lt_or_ge i (q7 l k) with h1 | h1
  · have hl : i < l.length := by omega
    rw [(Bo2 (k := k) (Cc8 hl)).1 h1, i7 qz8] at h; cases h
  · omega
def AG4 : List Int → Int → List Int
  | [], n => [n]
  | x :: l, n => if x < n then x :: AG4 l n else if x = n then x :: l else n :: x :: l
theorem CL8 {l : List Int} {n x : Int} : x ∈ AG4 l n ↔ x = n ∨ x ∈ l := by
  induction l with
  | nil => simp [AG4]
  | cons y l ih =>
    unfold AG4;split
    · simp only [Q0, ih]; constructor <;> rintro (h | h | h) <;> simp [h]
    · split
      · rename_i h; subst h; simp
      · simp
theorem Cc9 {l : List Int} {n : Int} (h : l.Pairwise (· < ·)) : (AG4 l n).Pairwise (· < ·) := by
  induction l with
  | nil => simp [AG4]
  | cons y l ih =>
    obtain ⟨h1, h2⟩ := n4.1 h;unfold AG4;split
    · rename_i hy
      refine n4.2 ⟨fun z hz => ?_, ih h2⟩;rcases CL8.1 hz with rfl | hz
      · exact hy
      · exact h1 z hz
    · split
      · exact h
      · rename_i h3 h4
        refine n4.2 ⟨fun z hz => ?_, h⟩;rcases Q0.1 hz with rfl | hz
        · omega
        · have := h1 z hz; omega
def Aq8 (cuts ks : List Str) : List Int := ks.foldl (fun a k => AG4 a (q7 cuts k)) []
theorem BL3 {cuts : List Str} : ∀ {ks : List Str} {a : List Int}, a.Pairwise (· < ·) → (ks.foldl (fun a k => AG4 a (q7 cuts k)) a).Pairwise (· < ·) ∧ ∀ z, z ∈ ks.foldl (fun a k => AG4 a (q7 cuts k)) a ↔ z ∈ a ∨ ∃ k ∈ ks, z = (q7 cuts k : Int)
  | [], a, h => ⟨h, fun z => by simp⟩
  | k :: ks, a, h => by
    obtain ⟨h1, h2⟩ := BL3 (cuts := cuts) (ks := ks) (Cc9 (n := (q7 cuts k : Int)) h);refine ⟨h1, fun z => ?_⟩;show z ∈ ks.foldl (fun a k => AG4 a (q7 cuts k)) (AG4 a (q7 cuts k)) ↔ _
    rw [h2, CL8];simp only [Q0, exists_eq_or_imp];constructor
    · rintro ((h | h) | h)
      · exact .inr (.inl h)
      · exact .inl h
      · exact .inr (.inr h)
    · rintro (h | h | h)
      · exact .inl (.inr h)
      · exact .inl (.inl h)
      · exact .inr h
def orderR (o : AZ1) : Bool := S1 ⟨1, o.Txn, 1, 0, o.Reads, o.Writes, false⟩
theorem Bv3 {n : Int} : ∀ {l : List Int} {i : Nat}, (∀ j x, j < i → l[j]? = some x → x < n) → i ≤ l.length → (∀ x, l[i]? = some x → ¬ x < n) →
    (∀ x, l[i]? = some x → x = n → AG4 l n = l) ∧ ((∀ x, l[i]? = some x → x ≠ n) → AG4 l n = l.take i ++ n :: l.drop i)
  | [], i, _, hi, _ => by simp at hi; subst hi; exact ⟨fun x hx => by simp at hx, fun _ => rfl⟩
  | y :: l, 0, _, _, h2 => by
    have h := h2 y rfl;unfold AG4;rw [C6 h];refine ⟨fun x hx hn => ?_, fun hn => ?_⟩
    · simp at hx; subst hx; rw [D0 hn]
    · rw [C6 (hn y rfl)]; rfl
  | y :: l, i + 1, h1, hi, h2 => by
    have hy := h1 0 y qz8 rfl;obtain ⟨k1, k2⟩ := Bv3 (n := n) (l := l) (i := i) (fun j x hj hx => h1 (j + 1) x qz8 AX1) (by simpa using hi) (fun x hx => h2 x AX1);unfold AG4;rw [D0 hy];refine ⟨fun x hx hn => by rw [k1 x AX1 hn], fun hn => by rw [k2 fun x hx => hn x AX1]; rfl⟩
theorem DE9 (l : List Int) (n : Int) : (AG4 l n).length ≤ l.length + 1 := by
  induction l with
  | nil => simp [AG4]
  | cons y l ih =>
    unfold AG4;split
    · rw [H8, H8]; omega
    · split <;> simp
theorem Cl0 {l ks : List Str} {i : Nat} {k : Str} (h : ks[i]? = some k) : Aq8 l (ks.take (i + 1)) = AG4 (Aq8 l (ks.take i)) (q7 l k) := by
  unfold Aq8;rw [T5, h, List.foldl_append]; rfl
theorem Bv4 (l : List Str) : ∀ (ks : List Str), (Aq8 l ks).length ≤ ks.length := by
  have key : ∀ (ks : List Str) (a : List Int), (ks.foldl (fun a k => AG4 a (q7 l k)) a).length ≤ a.length + ks.length := by
    intro ks;induction ks with
    | nil => intro a; exact K5 _
    | cons k ks ih =>
      intro a;have h1 := ih (AG4 a (q7 l k));have h2 := DE9 a (q7 l k);rw [List.foldl_cons, H8]; omega
  intro ks;have := key ks [];unfold Aq8; simpa using this
def OpD (o : TOp) : Prop := BF1 o = true ∧ o.Key ∈ u5 ∧ o.size ≤ 64
theorem valD_gv {v : Str} (h : v ∈ valD) : Aa1 v = true ∧ v.length ≤ 10 := by
  have : ∀ v ∈ valD, Aa1 v = true ∧ v.length ≤ 10 := by decide
  exact this v h
theorem Aa0 {K : Int} {k v : Str} (h1 : 1 ≤ K ∧ K ≤ 7) (hv : Aa5 K = true) (hk : k ∈ u5) (h : v ∈ valD) : OpD ⟨K, k, v, 0⟩ := by
  obtain ⟨k1, k2⟩ := AR1 hk;obtain ⟨v1, v2⟩ := valD_gv h;refine ⟨?_, hk, by unfold TOp.size; dsimp only; omega⟩;unfold BF1 within
  dsimp only;rw [i7 h1.1, i7 h1.2, k1, v1, hv]
  cases Aj1 K <;> rfl
theorem Ae1 {K n : Int} {k : Str} (h1 : 1 ≤ K ∧ K ≤ 7) (hb : Aj1 K = true) (hk : k ∈ u5) (h : -9999 ≤ n ∧ n ≤ 9999) : OpD ⟨K, k, [], n⟩ := by
  obtain ⟨k1, k2⟩ := AR1 hk;refine ⟨?_, hk, by unfold TOp.size; simp only [Q1]; omega⟩;unfold BF1 within
  dsimp only;rw [i7 h1.1, i7 h1.2, k1, hb, i7 h.1, i7 h.2]
  cases Aa5 K <;> rfl
theorem Ai6 {K : Int} {k : Str} (h1 : 1 ≤ K ∧ K ≤ 7) (hk : k ∈ u5) : OpD ⟨K, k, [], 0⟩ := by
  obtain ⟨k1, k2⟩ := AR1 hk;refine ⟨?_, hk, by unfold TOp.size; simp only [Q1]; omega⟩;unfold BF1 within
  dsimp only;rw [i7 h1.1, i7 h1.2, k1]
  cases Aa5 K <;> cases Aj1 K <;> rfl
theorem DF0 {l : List TOp} (hl : l.length ≤ 8) (h : ∀ o ∈ l, OpD o) : AE8 l = true ∧ ∀ o ∈ l, o.Key ∈ u5 := by
  refine ⟨?_, fun o ho => (h o ho).2.1⟩;unfold AE8;rw [i7 qz8, Bool.true_and, i6, List.any_eq_false];intro o ho;rw [(h o ho).1]; decide
theorem DF1 (s : Str) : -9223372036854775808 ≤ AM4 s ∧ AM4 s ≤ 9223372036854775807 := by
  unfold AM4;split
  · rename_i h; exact Lib.atoiAll_bounds h
  · unfold Lib.atoiSat; split <;> omega
  · omega
end Go.M
namespace Go.PQ
open Go.Proofs
open Go Go.AV Go.M
attribute [local irreducible] OpW OpA OpS AWP J6 L3 K7 OpE K2 H9 K6 Le Ev F7 M7 f8 Int.tmod Int.tdiv IntKind.wrap T7
end Go.PQ
namespace Go.PQ
open Go.Proofs
open Go Go.AV Go.M
attribute [local irreducible] OpW OpA OpS AWP J6 L3 K7 OpE K2 H9 K6 Le Ev F7 M7 f8 Int.tmod Int.tdiv IntKind.wrap T7
end Go.PQ
namespace Go.PQ
open Go.Proofs
open Go Go.AV Go.M
attribute [local irreducible] OpW OpA OpS AWP J6 L3 K7 OpE K2 H9 K6 Le Ev F7 M7
end Go.PQ
namespace Go.PQ
open Go.Proofs
open Go Go.AV Go.M
attribute [local irreducible] OpW OpA OpS AWP J6 L3 K7 OpE K2 H9 K6 Le Ev F7 M7 Int.tmod IntKind.wrap T7
end Go.PQ
namespace Go.PQ
open Go.Proofs
open Go Go.AV Go.M
attribute [local irreducible] OpW OpA OpS AWP J6 L3 K7 OpE K2 H9 K6 Le Ev F7 M7
end Go.PQ
namespace Go.PQ
open Go.Proofs
open Go Go.AV Go.M
attribute [local irreducible] OpW OpA OpS AWP J6 L3 K7 OpE K2 H9 K6 Le Ev F7 M7
theorem Bv5 (l : List Int) (a b : Int) : E1 52 [ints l, AV.int a, AV.int b] (AV.bool (l.all fun g => within g a b)) := by
 refine B3 Tryz.func52 rfl Tryz.ntmps52 rfl ?_;refine l7 (t := 0) rfl fun hl => ?_;try simp only [A7] at hl
 refine R12 ?_;refine F2 [(1, _), (2, _), (9, _), (10, _)] _ (fun (i : Nat) => i ≤ l.length ∧ (l.all fun g => within g a b) = ((l.drop i).all fun g => within g a b)) (fun i => []) (fun i => [(11, AV.int i)]) (fun i => l.length - i) (0) ?_ (G3 A8) ?_
 ·exact ⟨E2 _, rfl⟩
 intro i hinv;refine R5 ?_;refine A3 ?_ ?_
 ·intro h12;have k12 := C5 h12;have hlt : i < l.length := by omega
  obtain ⟨x, hx⟩ := B4 hlt;refine R5 ?_;refine A1 rfl (D3 rfl G5 E7 (A0 rfl) (A0 rfl) hx qz2) ?_;refine R8 ?_;refine A1 rfl (A5 rfl Tryz.call24 rfl (P3 _ _ _) AA5) ?_;refine R2 ?_;refine A3 ?_ ?_
  ·intro h19;refine R5 ?_;exact D6 rfl (A6 rfl qz150)
  intro h19;refine R5 ?_;refine G4 i (i + 1) ?_ ?_ (G3 A8)
  ·exact ⟨by omega, by rw [hinv.2, Ak3 hx (by simpa using h19)]⟩
  omega
 intro h12;have k12 := B9 h12;have hge : l.length ≤ i := by omega
 refine R6 ?_;exact D6 rfl (A6 rfl qz150)
theorem AM7 (l : List Int) (hl : l.length ≤ 4194304) : M1 157 [ints l] [] (fun _ : Value => True) (fun v => [.arr v 3 1 (l.map fun x => [AV.int x])]) (fun v => AV.is v) := by
  refine C8 Tryz.func157 rfl Tryz.ntmps157 rfl ?_;refine R2 ?_;refine A1 rfl (G1 rfl I9) ?_;refine R3 ?_;refine P6 rfl rfl rfl rfl G5 E7 ?_;intro v3;refine R1 ?_;refine H4 (by' := 8) 0 rfl rfl rfl rfl G5 Tryz.type3 rfl rfl rfl rfl rfl rfl (A0 rfl) (A0 rfl) rfl qz2 ?_;intro v5_1;refine R3 ?_;exact I4 [0] v5_1 (trivial) rfl C1 (M4 rfl (A6 rfl qz9))
end Go.PQ
namespace Go.PQ
open Go.Proofs
open Go Go.AV Go.M
attribute [local irreducible] OpW OpA OpS AWP J6 L3 K7 OpE K2 H9 K6 Le Ev F7 M7 f8 Int.tmod Int.tdiv IntKind.wrap T7
def E6.ocs (r : E6) (y : Value) : List AV := [AV.bool r.Up, AV.is y, AV.int r.Sure]
def E6.ow (r : E6) (y : Value) : List Go.AV.Own := [.arr y 177 8 (r.Log.map I5.cs)]
theorem E6.lcM {own : List Go.AV.Own} (r : E6) (y : Value) (h : ∀ o ∈ E6.ow r y, o ∈ own) : AC1 own (E6.ocs r y) r.cs := D5 I0 (D5 (K0 (h _ (C2 (i := 0) rfl)) F6) AE4)
theorem Cw4 (g : C4) (hs : g.size ≤ 1048576) : M1 158 [AV.agg g.cs] [] (fun x : Value × List Value => x.2.length = g.Reps.length) (fun x => .arr x.1 131 3 (J7 E6.ocs g.Reps x.2) :: nin E6.ow g.Reps x.2) (fun x => AV.agg [AV.is x.1, AV.int g.Term, AV.int g.Lead]) := by
 have hrs : C7 E6.size g.Reps ≤ 1048576 := hs;have hll : g.Reps.length ≤ 1048576 := L8 L9 hrs;refine C8 Tryz.func158 rfl Tryz.ntmps158 rfl ?_;refine R3 ?_;intro b1;refine R1 ?_;intro b2;refine R3 ?_;refine P6 rfl rfl rfl rfl G6 J2 ?_;intro v5;refine R4 ?_;refine O7 0 rfl fun one_v5 => ?_;refine A1 rfl (Y6 (places := #[(0, 1), (1, 1), (2, 1)]) rfl W5 Tryz.zeroValue81 (fun w => by kernel_rfl) rfl (D8 (A0 rfl) (K4 one_v5) (D8 (A0 rfl) (W4 _ _) (D8 (A0 rfl) (W4 _ _) U1))) rfl) ?_;refine R1 ?_;intro b3;refine R8 ?_;refine AWP.le (B8 [0, 1, 1, 0] rfl) ?_;refine W7 [(1, _), (2, _), (3, _)] [] (fun (i : Nat) (v : Value) (xs : List Value) => i ≤ g.Reps.length ∧ xs.length = i) (fun i v xs => [.box b3 81 [AV.is v, AV.int g.Term, AV.int g.Lead], .box b2 81 (List.map j3 (Value.agg #[E4, Value.int IntKind.i64 0, Value.int IntKind.i64 0]).cells.toList), .box b1 81 g.cs, .arr v 131 3 (J7 E6.ocs (g.Reps.take i) xs)] ++ (nin E6.ow (g.Reps.take i) xs)) (fun i v xs => [(4, AV.int i)]) (fun i v xs => g.Reps.length - i) (0) (v5) ([]) ?_ (K1 C1 A8) ?_
 ·exact ⟨E2 _, rfl⟩
 intro i v xs hinv;refine G0 (Q6 _) ?_;refine R9 ?_;refine A3 ?_ ?_
 ·intro h15;have k15 := C5 h15;have hlt : i < g.Reps.length := BF4;obtain ⟨x, hx⟩ := B4 hlt;have hsx : C7 I5.size x.Log ≤ 1048576 := L8 (U6 (f := E6.size) hx) hrs;refine R3 ?_;refine O8 _ [(0, false), (1, false), (2, false), (3, false), (4, false), (5, false), (6, false), (7, false), (8, false), (9, false), (10, false), (11, false), (12, false), (13, false), (15, false), (16, false), (17, false), (18, false), (19, false), (20, false), (14, true), (21, false), (22, false), (23, true)] D4 D4 rfl (S3 3) ?_;refine R5 ?_;refine P4 rfl rfl rfl (fun ext => D3 rfl G6 J2 (A0 rfl) (A0 rfl) hx qz2) ?_;refine R5 ?_;refine P4 rfl rfl rfl (fun ext => D3 rfl G6 J2 (A0 rfl) (A0 rfl) hx qz2) ?_;refine R5 ?_;refine P4 rfl rfl rfl (fun ext => D3 rfl G6 J2 (A0 rfl) (A0 rfl) hx qz2) ?_;refine R2 ?_;refine T4 rfl rfl rfl (T2 4 (fun _ => rfl) (u7 4 (P5 [] rfl Tryz.call187 rfl (Bb3 x.Log hsx) J3 rfl))) (fun a _ => qz4) ?_;intro x32 ok32;have one_x32 := ok32.2
  replace ok32 := ok32.1
  refine P4 rfl rfl rfl (fun ext => Y6 (places := #[(0, 1), (1, 1), (2, 1)]) rfl r9 Tryz.zeroValue131 (fun w => by kernel_rfl) rfl (D8 (A0 rfl) (Af8 _) (D8 (A0 rfl) (K4 one_x32) (D8 (A0 rfl) (W4 _ _) U1))) rfl) ?_;refine R1 ?_;refine T4 rfl rfl rfl (L4 (by' := 40) 3 rfl G6 Tryz.type131 rfl rfl rfl rfl rfl rfl (A0 rfl) (A0 rfl) rfl BP4) (fun a _ => qz4) ?_;intro v41_1 _;refine R2 ?_;refine O7 3 rfl fun one_v41_1 => ?_;refine N0 0 rfl rfl rfl (A0 rfl) (A0 rfl) (K4 one_v41_1) rfl AV3 rfl ?_;refine R1 ?_;refine AWP.le (B8 [0, 0, 0, 0, 0] rfl) ?_;refine AWP.le (S4 4 (t := nin E6.ow (g.Reps.take (i + 1)) (xs ++ [x32])) (AX6 (ow := E6.ow) (x := x32) hx hinv.2)) ?_;refine R5 ?_;refine S7 i v xs (i + 1) (v41_1) (xs ++ [x32]) ?_ ?_ (Le.trans (B8 [0, 0, 0, 0] rfl) (K1 (Eq.trans (by exact C3 (fun z => Go.AV.Own.box _ _ _ :: Go.AV.Own.box _ _ _ :: Go.AV.Own.box _ _ _ :: Go.AV.Own.arr _ _ _ z :: _) (AQ8 hx hinv.2)) (Q6 _).symm) A8))
  ·exact ⟨by omega, by rw [H3, hinv.2]; rfl⟩
  omega
 intro h15;have k15 := B9 h15;have hge : i = g.Reps.length := (by have h9 : g.Reps.length ≤ i := BF4; omega);have hxs := hinv.2.trans hge;rw [show g.Reps.take i = g.Reps from P8 qz8];refine R7 ?_;exact H7 [3] 3 (nin E6.ow g.Reps xs) [] (v, xs) (hxs) rfl (show List.Perm (nin E6.ow g.Reps xs) ((nin E6.ow g.Reps xs) ++ []) from B7) C1 (M4 rfl (F3 (ys := _) 1 rfl rfl O4 E0 rfl))
theorem DF2 {own : List Go.AV.Own} {l : List E6} {xs : List Value} {k : Nat} (hm : ∀ o ∈ nin E6.ow (l.eraseIdx k) (xs.eraseIdx k), o ∈ own) {j : Nat} {p : E6} {x : Value} (hp : l[j]? = some p) (hx : xs[j]? = some x) (hj : j ≠ k) : ∀ o ∈ E6.ow p x, o ∈ own := fun o ho => by
  by_cases h : j < k
  · exact hm o (Bf7 (i := j) (by rw [List.getElem?_eraseIdx, D0 h]; exact hp) (by rw [List.getElem?_eraseIdx, D0 h]; exact hx) o ho)
  · exact hm o (Bf7 (i := j - 1) (by rw [List.getElem?_eraseIdx, C6 qz8, show j - 1 + 1 = j by omega]; exact hp) (by rw [List.getElem?_eraseIdx, C6 qz8, show j - 1 + 1 = j by omega]; exact hx) o ho)
theorem DF3 {own : List Go.AV.Own} {l : List E6} {xs : List Value} {k : Nat} {p p' : E6} {y : Value} (hlen : xs.length = l.length) (hp : l[k]? = some p) (hy : xs[k]? = some y) (hm : ∀ o ∈ nin E6.ow (l.eraseIdx k) (xs.eraseIdx k), o ∈ own) : BU7 own (J7 E6.ocs (l.take k) (xs.take k) ++ p'.cs :: J7 E6.ocs (l.drop (k + 1)) (xs.drop (k + 1))) ((l.set k p').map E6.cs) := by
  have hk := (E9.1 hp).1;have ht := AL8 (ocs := E6.ocs) hp hy;refine ⟨by rw [BR2 hp hy hlen, A7, Z0], fun j a b ha hb => ?_⟩;rw [X2] at hb;by_cases hj : j = k
  · subst hj
    rw [AO3 hk] at hb;rw [Ag9 qz8, ht, Nat.sub_self, BP8] at ha;injection ha with ha; injection hb with hb; subst ha; subst hb
    exact AE4
  · rw [AY3 (fun e => hj e.symm)] at hb
    cases hq : l[j]? with
    | none => rw [hq] at hb; cases hb
    | some q =>
      rw [hq] at hb;injection hb with hb
      have hjl := (E9.1 hq).1;obtain ⟨x, hx⟩ : ∃ x, xs[j]? = some x := ⟨_, N6 qz8⟩;have ha2 : (J7 E6.ocs l xs)[j]? = some a := by
        rw [AM6 hp hy];by_cases h : j < k
        · rw [Ao2 qz8] at ha ⊢; exact ha
        · rw [Ag9 qz8] at ha ⊢
          obtain ⟨m, hm9⟩ : ∃ m, j - (J7 E6.ocs (l.take k) (xs.take k)).length = m + 1 := ⟨j - k - 1, by omega⟩;rw [hm9] at ha ⊢;rw [BG2] at ha ⊢;exact ha
      rw [c8 hq hx] at ha2;injection ha2 with ha2
      subst ha2; subst hb;exact E6.lcM q x (DF2 hm hq hx hj)
theorem Cl1 (R : List E6) (tm : Int) (k : Nat) (L : E6) (r : M5) (hL : R[k]? = some L) (hs : (C4.mk R tm k).size ≤ 1000000) (hrs : r.size ≤ 1000) (hg : Z6 ⟨R, tm, k⟩ = true) (hgr : S1 r = true) (hlen : L.Log.length < 60) : M1 222 [AV.agg (C4.mk R tm k).cs, AV.agg r.cs] [] (fun x : Value × List Value => x.2.length = R.length) (fun x => .arr x.1 131 3 (J7 E6.ocs (R.take k) (x.2.take k) ++ (E6.mk L.Up (L.Log ++ [⟨tm, r⟩]) L.Sure).cs :: J7 E6.ocs (R.drop (k + 1)) (x.2.drop (k + 1))) :: nin E6.ow (R.eraseIdx k) (x.2.eraseIdx k)) (fun x => AV.tup [AV.agg [AV.is x.1, AV.int tm, AV.int (k : Int)], AV.bool true]) := by
 have hrsz : C7 E6.size R ≤ 1000000 := hs;have hkl := (E9.1 hL).1;have hlsz : C7 I5.size L.Log ≤ 1000000 := L8 (U6 (f := E6.size) hL) hrsz;have hnew : C7 I5.size (L.Log ++ [⟨tm, r⟩]) ≤ 1048576 := by
  have e : C7 I5.size (L.Log ++ [⟨tm, r⟩]) = C7 I5.size L.Log + (1 + r.size) := by
   unfold C7; rw [X1, List.sum_append]; simp [I5.size]; omega
  omega
 have hld : (C4.mk R tm (k : Int)).Lead = (k : Int) := rfl;have hrl : (C4.mk R tm (k : Int)).Reps.length = R.length := rfl;have hcall : E1 187 [AV.list 8 (L.Log.map I5.cs ++ [I5.cs (I5.mk tm r)])] (AV.list 8 ((L.Log ++ [I5.mk tm r]).map I5.cs)) := by
  have h := Ax8 (L.Log ++ [⟨tm, r⟩]) hnew;rw [X1] at h ⊢;exact h
 refine C8 Tryz.func222 rfl Tryz.ntmps222 rfl ?_;refine R3 ?_;intro b2;refine R1 ?_;intro b3;refine R1 ?_;intro b4;refine R6 ?_;refine A1 rfl (A5 rfl Tryz.call53 rfl (AR4 _ W1) (A2 (A0 rfl) B0)) ?_;refine R8 ?_;refine Q7 rfl (fun hc => A5 rfl Tryz.call136 rfl (BD8 _ W1) (A2 (A9 rfl hc) B0)) ?_;refine R7 ?_;refine Q7 rfl (fun hc => D3 rfl G6 J2 (A9 rfl hc) (A9 rfl hc) hL qz6) ?_;refine R6 ?_;refine A3 ?_ ?_
 ·intro h30;exfalso; rw [hg, ← Am9, hgr] at h30; simp at h30; omega
 intro h30;refine R4 ?_;refine K3 [] 3 1 ([]) ([]) (fun zz => nin E6.ow R zz.2) rfl rfl rfl rfl Tryz.call158 rfl rfl (show List.Perm ([]) (([]) ++ ([])) from List.Perm.refl _) (Cw4 ⟨R, tm, k⟩ qz8) J3 (fun a => M0) ?_;intro x33 ok33;refine R1 ?_;intro b6;refine R3 ?_;have hln : x33.2.length = R.length := ok33;obtain ⟨y, hy⟩ := B4 (show k < x33.2.length by omega);rw [AM6 hL hy];refine AWP.le (S4 5 (t := ([Go.AV.Own.arr y 177 8 (L.Log.map I5.cs)]) ++ (nin E6.ow (R.eraseIdx k) (x33.2.eraseIdx k))) (AZ4 (ow := E6.ow) hL hy)) ?_;refine O8 _ [(0, false), (1, false), (2, false), (3, false), (4, false), (5, false), (6, false), (7, false), (8, false), (9, false), (10, false), (11, false), (12, false), (13, false), (14, false), (15, false), (16, true), (17, false)] D4 D4 rfl (S3 5) ?_;refine R8 ?_;refine P4 rfl rfl rfl (fun ext => H6 1 rfl G6 J2 (A0 rfl) rfl (A0 rfl) qz8 (by rw [BR2 hL hy hln]; omega)) ?_;refine P4 rfl rfl rfl (fun ext => L7 1 rfl r9 rfl Tryz.sizeOf129 (A0 rfl) rfl rfl (AE5 (AL8 hL hy))) ?_;refine P4 rfl rfl rfl (fun ext => N4 1 rfl (A0 rfl) rfl Tryz.isAgg129 (AE5 (AL8 hL hy)) rfl) ?_;refine R5 ?_;refine T4 rfl rfl rfl (Ac8 [5] (fun _ => rfl) (fun _ => K0 (C2 (i := 0) rfl) F6) (fun _ => U2) (L4 (by' := 96) 5 rfl O9 Tryz.type177 rfl rfl rfl rfl rfl rfl (A0 rfl) (A0 rfl) rfl qz2)) (fun a _ => qz4) ?_;intro v50_1 _;refine P4 rfl rfl rfl (fun ext => A5 rfl Tryz.call187 rfl (hcall) J3) ?_;refine R1 ?_;refine A1 rfl (H6 1 rfl G6 J2 (A0 rfl) rfl (A0 rfl) qz8 (by rw [BR2 hL hy hln]; omega)) ?_;refine A1 rfl (L7 1 rfl r9 rfl Tryz.sizeOf129 (A0 rfl) rfl rfl (AE5 (AL8 hL hy))) ?_;refine Af9 1 rfl rfl rfl (A0 rfl) (A0 rfl) (g8 _ _) rfl Tryz.sizeOf129 (AL8 hL hy) rfl ?_;refine R8 ?_;exact H7 [1] 4 (nin E6.ow (R.eraseIdx k) (x33.2.eraseIdx k)) [] (x33.1, x33.2) (ok33) rfl (show List.Perm (nin E6.ow (R.eraseIdx k) (x33.2.eraseIdx k)) ((nin E6.ow (R.eraseIdx k) (x33.2.eraseIdx k)) ++ []) from B7) C1 (g9 rfl F1 (I3 (F3 (ys := _) 2 rfl rfl O4 E0 rfl) X8))
end Go.PQ
namespace Go.PQ
open Go.Proofs
open Go Go.AV Go.M
attribute [local irreducible] OpW OpA OpS AWP J6 L3 K7 OpE K2 H9 K6 Le Ev F7 M7 f8 Int.tmod Int.tdiv IntKind.wrap T7
theorem Cl2 (g : C4) (r : M5) (hs : g.size ≤ 1048576) (hrs : r.size ≤ 1000) (hno : (AD9 g r).2 = false) : E1 222 [AV.agg g.cs, AV.agg r.cs] (AV.tup [AV.agg AH5.cs, AV.bool false]) := by
 refine B3 Tryz.func222 rfl Tryz.ntmps222 rfl ?_;refine R3 ?_;intro b2;refine R1 ?_;intro b3;refine R1 ?_;intro b4;refine R6 ?_;refine A1 rfl (A5 rfl Tryz.call53 rfl (AR4 _ W1) (A2 (A0 rfl) B0)) ?_;refine R8 ?_;refine Q7 rfl (fun hc => A5 rfl Tryz.call136 rfl (BD8 _ W1) (A2 (A9 rfl hc) B0)) ?_;refine R7 ?_;refine Q7 rfl (fun hc => D3 rfl G6 J2 (A9 rfl hc) (A9 rfl hc) (p5 (put_in hc)) (by have h9 := (put_in hc).1; omega)) ?_;refine R6 ?_;refine A3 ?_ ?_
 ·intro h30;refine R7 ?_;refine BK1 0 0 3 rfl rfl ?_;exact f7 rfl F1 (I3 (F3 (ys := _) 0 rfl rfl O4 E0 rfl) X8)
 intro h30;exact (Cw3 hno h30).elim
theorem CP4 (g : C4) (r : M5) (hs : g.size ≤ 1000000) (hrs : r.size ≤ 1000) : E1 222 [AV.agg g.cs, AV.agg r.cs] (AV.tup [AV.agg (AD9 g r).1.cs, AV.bool (AD9 g r).2]) := by
  by_cases h : (Aa4 g && S1 r) = true ∧ (N9 g g.Lead).Log.length < 60
  · have he : AD9 g r = (AW1 g g.Lead ⟨(N9 g g.Lead).Up, (N9 g g.Lead).Log ++ [⟨g.Term, r⟩], (N9 g g.Lead).Sure⟩, true) := D0 h
    have hh := h.1;rw [E8] at hh;obtain ⟨gg, l0, l1, hup⟩ := Ai5.1 hh.1;have hL := p5 (g := g) (r := g.Lead) ⟨l0, l1⟩;rw [he];obtain ⟨R, tm, ld⟩ := g;obtain ⟨k, hk⟩ : ∃ k : Nat, ld = (k : Int) := ⟨ld.toNat, (Int.toNat_of_nonneg l0).symm⟩;subst hk;refine L5 (Cl1 R tm k (N9 ⟨R, tm, k⟩ k) r hL hs hrs (AK3.2 gg) hh.2 h.2) fun x hx => ?_;have hkl := (E9.1 hL).1;have hxl : x.2.length = R.length := hx;obtain ⟨y, hy⟩ : ∃ y, x.2[k]? = some y := ⟨_, N6 (show k < x.2.length by rw [hxl]; exact hkl)⟩;exact AK9 (D5 (AK8 (D5 (K0 Y9 (DF3 hxl hL hy fun o ho => Q2 _ ho)) AE4)) (D5 I0 d5))
  · have he : AD9 g r = (AH5, false) := C6 h
    rw [he];exact Cl2 g r qz8 hrs (by rw [he])
end Go.PQ
namespace Go.PQ
open Go.Proofs
open Go Go.AV Go.M
attribute [local irreducible] OpW OpA OpS AWP J6 L3 K7 OpE K2 H9 K6 Le Ev F7 M7
theorem DF4 (l : List Int) (n : Int) : E1 350 [ints l, AV.int n] (AV.bool (l.any fun y => n == y)) := by
 refine B3 Tryz.func350 rfl Tryz.ntmps350 rfl ?_;refine l7 (t := 0) rfl fun hl => ?_;try simp only [A7] at hl
 refine R12 ?_;refine F2 [(1, _), (7, _), (8, _)] _ (fun (i : Nat) => i ≤ l.length ∧ (l.any fun y => n == y) = ((l.drop i).any fun y => n == y)) (fun i => []) (fun i => [(9, AV.int i)]) (fun i => l.length - i) (0) ?_ (G3 A8) ?_
 ·exact ⟨E2 _, rfl⟩
 intro i hinv;refine R5 ?_;refine A3 ?_ ?_
 ·intro h10;have k10 := C5 h10;have hlt : i < l.length := by omega
  obtain ⟨x, hx⟩ := B4 hlt;refine R5 ?_;refine A1 rfl (D3 rfl G5 E7 (A0 rfl) (A0 rfl) hx qz2) ?_;refine R9 ?_;refine A3 ?_ ?_
  ·intro h15;have k15 := J9 h15;(try simp only [A7] at k15);refine R5 ?_;exact D6 rfl (A6 rfl qz167)
  intro h15;have k15 := J5 h15;(try simp only [A7] at k15);refine R5 ?_;refine G4 i (i + 1) ?_ ?_ (G3 A8)
  ·exact ⟨by omega, by rw [hinv.2, CS8 hx, Ab1, show (n == x) = false from by simpa using Ne.symm k15]; rfl⟩
  omega
 intro h10;have k10 := B9 h10;have hge : l.length ≤ i := by omega
 refine R6 ?_;exact D6 rfl (A6 rfl qz167)
theorem Cd0 (g h : K8) : E1 145 [AV.agg h.cs, AV.eptr g.cs] (AV.bool (h.Key == g.Key)) := by
  refine B3 Tryz.func145 rfl Tryz.ntmps145 rfl ?_;refine R3 ?_;intro b2;refine R12 ?_;exact D6 rfl (A6 rfl qz9)
theorem Bj8 (l : List K8) (hs : C7 K8.size l ≤ 4194304) : E1 116 [AV.list 3 (l.map K8.cs)] (AV.bool (AW2 l)) := by
 have hl := L9 (f := K8.size) (l := l);refine B3 Tryz.func116 rfl Tryz.ntmps116 rfl ?_;refine R12 ?_;refine F2 [(0, _), (5, _), (6, _)] _ (fun (i : Nat) => i ≤ l.length ∧ AY7 [] l = AY7 (l.take i) (l.drop i)) (fun i => []) (fun i => [(7, AV.int i)]) (fun i => l.length - i) (0) ?_ (K1 C1 A8) ?_
 ·exact ⟨E2 _, rfl⟩
 intro i hinv;refine R5 ?_;refine A3 ?_ ?_
 ·intro h8;have k8 := C5 h8;have hlt : i < l.length := by (simpa using h8)
  obtain ⟨x, hx⟩ := B4 hlt;have hxs := Cc7 hx;have hgs := CL5 hx;refine R6 ?_;refine A1 rfl (D3 rfl P0 d9 (A0 rfl) (A0 rfl) hx qz2) ?_;refine R2 ?_;intro b4;refine R7 ?_;refine A1 rfl (A5 rfl Tryz.call91 rfl (An2 _ qz8) (A2 (A0 rfl) B0)) ?_;refine R7 ?_;refine Q7 rfl (fun hc => A5 rfl Tryz.call50 rfl (Ax4 _ _ qz8) (A2 (A9 rfl hc) (A2 (A9 rfl hc) B0))) ?_;refine R5 ?_;refine Q7 rfl (fun hc => AG9 rfl P0 d9 (A9 rfl hc) (A9 rfl hc) qz6 qz6) ?_;refine Q7 rfl (fun hc => BG6 rfl rfl J3) ?_;refine Q7 rfl (fun hc => l8 rfl Tryz.call144 rfl (BS5 (l.take i) (fun _ => True) (fun h => h.Key == x.Key) (fun _ _ => trivial)) (U0 _) (P1 (evb (A9 rfl hc)) (P1 (AQ4 (Ar2 0 (A9 rfl hc) rfl) (Ac1 Tryz.call145 (fun g (_ : True) => Cd0 _ g))) m8))) ?_;refine R2 ?_;refine A3 ?_ ?_
  ·intro h31;have hn : (BJ2 x && !((l.take i).any fun h => h.Key == x.Key)) = false := qz135;have he : AW2 l = false := (by unfold AW2; rw [hinv.2, hgs, hn]; rfl);rw [he];refine R5 ?_;exact D6 rfl (A6 rfl qz79)
  intro h31;have hy : (BJ2 x && !((l.take i).any fun h => h.Key == x.Key)) = true := qz135;refine R5 ?_;refine G4 i (i + 1) ?_ ?_ (Le.trans (B8 [0] rfl) (E5 1 C1 A8))
  ·exact ⟨by omega, by rw [hinv.2, hgs, hy, Bool.true_and]⟩
  omega
 intro h8;have k8 := B9 h8;have hge : l.length ≤ i := by (simpa using h8)
 have hfin := hinv.2;rw [Cc6 hge] at hfin;refine R9 ?_;exact D6 rfl (A6 rfl qz79)
theorem Bj9 (l : List K8) (hs : C7 K8.size l ≤ 4194304) : E1 99 [AV.list 3 (l.map K8.cs)] (AV.bool (AW2 l)) := by
 have hl := L9 (f := K8.size) (l := l);refine B3 Tryz.func99 rfl Tryz.ntmps99 rfl ?_;refine R12 ?_;refine F2 [(0, _), (7, _), (8, _)] _ (fun (i : Nat) => i ≤ l.length ∧ AY7 [] l = AY7 (l.take i) (l.drop i)) (fun i => []) (fun i => [(9, AV.int i)]) (fun i => l.length - i) (0) ?_ (K1 C1 A8) ?_
 ·exact ⟨E2 _, rfl⟩
 intro i hinv;refine R5 ?_;refine A3 ?_ ?_
 ·intro h10;have k10 := C5 h10;have hlt : i < l.length := by (simpa using h10)
  obtain ⟨x, hx⟩ := B4 hlt;have hxs := Cc7 hx;have hgs := CL5 hx;have hi0 := hinv.2;refine R6 ?_;refine A1 rfl (D3 rfl P0 d9 (A0 rfl) (A0 rfl) hx qz2) ?_;refine R2 ?_;intro b4;refine R8 ?_;refine A1 rfl (A5 rfl Tryz.call94 rfl (AR2 _ qz8) (A2 (A0 rfl) B0)) ?_;refine R4 ?_;refine Q7 rfl (fun hc => A5 rfl Tryz.call101 rfl (Az9 _ qz8) (A2 (A9 rfl hc) B0)) ?_;refine R9 ?_;refine s9 rfl rfl (X4 rfl rfl rfl) (fun hc => CU4 rfl (A9 rfl hc) (S8 (l := []) rfl)) ?_;refine R3 ?_;refine A3 ?_ ?_
  ·intro h33;have hn : BJ2 x = false := qz151;have he : AW2 l = false := (by unfold AW2; rw [hinv.2, hgs, hn]; rfl);rw [he];refine R5 ?_;exact D6 rfl (A6 rfl qz79)
  intro h33;have hy : BJ2 x = true := qz151;refine R5 ?_;refine A1 rfl (AG9 rfl P0 d9 (A0 rfl) (A0 rfl) qz2 qz2) ?_;refine R4 ?_;refine F2 [(0, _), (3, _), (4, _), (7, _), (8, _), (9, _), (10, _), (11, _), (12, _), (13, _), (14, _), (15, _), (16, _), (17, _), (18, _), (23, _), (24, _), (33, _), (34, _), (35, _), (36, _), (37, _)] _ (fun (j : Nat) => j ≤ (l.take i).length ∧ ((l.take i).any fun h => h.Key == x.Key) = (((l.take i).drop j).any fun h => h.Key == x.Key)) (fun j => []) (fun j => [(38, AV.int j)]) (fun j => (l.take i).length - j) (0) ?_ (K1 C1 A8) ?_
  ·exact ⟨E2 _, rfl⟩
  intro j hinv;refine R5 ?_;refine A3 ?_ ?_
  ·intro h39;have k39 := C5 h39;have hlt1 : j < (l.take i).length := by (simpa using h39)
   obtain ⟨z, hz⟩ := B4 hlt1;refine R5 ?_;refine A1 rfl (D3 rfl P0 d9 (A0 rfl) (A0 rfl) hz qz2) ?_;refine R2 ?_;intro b6;refine R10 ?_;refine A3 ?_ ?_
   ·intro h46;have he : AW2 l = false := (by unfold AW2; rw [hi0, hgs, hinv.2, CL6 hz, kcomm z.Key, h46, Bool.true_or, Bool.not_true, Bool.and_false]; rfl);rw [he];refine R5 ?_;exact D6 rfl (A6 rfl qz79)
   intro h46;refine R5 ?_;refine G4 j (j + 1) ?_ ?_ (Le.trans (B8 [0] rfl) (E5 1 C1 A8))
   ·exact ⟨by omega, by rw [hinv.2, CL6 hz, kcomm z.Key, h46]; rfl⟩
   omega
  intro h39;have k39 := B9 h39;have hge1 : (l.take i).length ≤ j := by (simpa using h39)
  have hj3 : ((l.take i).any fun h => h.Key == x.Key) = false := (by rw [hinv.2, k6 hge1]; rfl);refine R5 ?_;refine G4 i (i + 1) ?_ ?_ (Le.trans (B8 [0] rfl) (E5 1 C1 A8))
  ·exact ⟨by omega, by rw [hi0, hgs, hy, hj3]; rfl⟩
  omega
 intro h10;have k10 := B9 h10;have hge : l.length ≤ i := by (simpa using h10)
 have hfin := hinv.2;rw [Cc6 hge] at hfin;refine R9 ?_;exact D6 rfl (A6 rfl qz79)
end Go.PQ
namespace Go.PQ
open Go.Proofs
open Go Go.AV Go.M
attribute [local irreducible] OpW OpA OpS AWP J6 L3 K7 OpE K2 H9 K6 Le Ev F7 M7 Int.tmod Int.tdiv IntKind.wrap
theorem BN7 (x y : G2) : E1 97 [AV.agg x.cs, AV.agg y.cs] (AV.bool (Aj2 x y)) := by
  refine B3 Tryz.func97 rfl Tryz.ntmps97 rfl ?_;refine R3 ?_;intro b2;refine R1 ?_;intro b3;refine R27 ?_;exact D6 rfl (A6 rfl qz9)
theorem DF5 (l : List Int) (n : Int) : (AO0 l n).length ≤ l.length + 1 := by
  induction l with
  | nil => simp [AO0]
  | cons y l ih =>
    unfold AO0;split
    · rw [H8, H8]; omega
    · split <;> simp
theorem Cd1 {l : List G2} {x y : G2} {i : Nat} (hy : l[i]? = some y) : AA2 (l.take (i + 1)) x = if Aj2 x y = true then AO0 (AA2 (l.take i) x) y.Txn else AA2 (l.take i) x := by
  unfold AA2;rw [T5, hy, List.filter_append, List.foldl_append]
  cases h : Aj2 x y <;> simp [h]
theorem Cd2 (l : List G2) (a : List Int) : (l.foldl (fun a y => AO0 a y.Txn) a).length ≤ a.length + l.length := by
  induction l generalizing a with
  | nil => simp
  | cons y l ih => rw [List.foldl_cons]; have := ih (AO0 a y.Txn); have := DF5 a y.Txn; rw [H8]; omega
theorem Bk0 (l : List G2) (x : G2) : (AA2 l x).length ≤ l.length := by
  unfold AA2;have h1 := Cd2 (l.filter (Aj2 x)) [];have h2 := List.length_filter_le (Aj2 x) l;rw [Q1] at h1; omega
theorem Bv6 {n : Int} : ∀ {l : List Int} {i : Nat}, (∀ j x, j < i → l[j]? = some x → x < n) → i ≤ l.length → (∀ x, l[i]? = some x → ¬ x < n) →
    (∀ x, l[i]? = some x → x = n → AO0 l n = l) ∧ ((∀ x, l[i]? = some x → x ≠ n) → AO0 l n = l.take i ++ n :: l.drop i)
  | [], i, _, hi, _ => by simp at hi; subst hi; exact ⟨fun x hx => by simp at hx, fun _ => rfl⟩
  | y :: l, 0, _, _, h2 => by
    have h := h2 y rfl;unfold AO0;rw [C6 h];refine ⟨fun x hx hn => ?_, fun hn => ?_⟩
    · simp at hx; subst hx; rw [D0 hn]
    · rw [C6 (hn y rfl)]; rfl
  | y :: l, i + 1, h1, hi, h2 => by
    have hy := h1 0 y qz8 rfl;obtain ⟨k1, k2⟩ := Bv6 (n := n) (l := l) (i := i) (fun j x hj hx => h1 (j + 1) x qz8 AX1) (by simpa using hi) (fun x hx => h2 x AX1);unfold AO0;rw [D0 hy];refine ⟨fun x hx hn => by rw [k1 x AX1 hn], fun hn => by rw [k2 fun x hx => hn x AX1]; rfl⟩
theorem Cq4 {p : Prop} (h : p := by
 refine B3 Tryz.func348 rfl Tryz.ntmps348 rfl ?_;refine R2 ?_;refine A1 rfl (G1 rfl (Y5 (sz := 1))) ?_;refine R7 ?_;refine F2 [(0, _), (1, _), (4, _)] _ (fun (i : Nat) => i ≤ l.length ∧ ∀ j x, j < i → l[j]? = some x → x < n) (fun i => []) (fun i => [(5, AV.int i)]) (fun i => l.length - i) (0) ?_ (G3 A8) ?_
 ·exact ⟨E2 _, fun j x h => by omega⟩
 intro i hinv;obtain ⟨x, hx⟩ := BB6 l i;have hx0 : i < l.length → l[i]? = some x := hx;refine R10 ?_;refine L6 rfl (fun hc => D3 rfl G5 E7 (A9 rfl hc) (A9 rfl hc) (hx qz6) qz6) ?_;refine R5 ?_;refine A3 ?_ ?_
 ·intro h18;have hb : i < l.length ∧ x < n := by simpa using h18
  refine R7 ?_;refine Am5 ?_;refine G4 i (i + 1) ?_ ?_ (G3 A8)
  ·exact ⟨by omega, fun j y hj hy => (Nat.lt_or_ge j i).elim (fun h => hinv.2 j y h hy) (fun h => by (obtain rfl : j = i := by omega); rw [hx0 hb.1] at hy; injection hy with hy; omega)⟩
  omega
 intro h18;have hb : i < l.length → ¬ x < n := fun h => by simpa [h] using h18
 obtain ⟨hs1, hs2⟩ := tw7x0 hinv.2 hinv.1 (fun z hz => by (have hzl := (E9.1 hz).1; rw [hx0 hzl] at hz; injection hz with hz; subst hz; exact hb hzl));refine R11 ?_;refine L6 rfl (fun hc => D3 rfl G5 E7 (A9 rfl hc) (A9 rfl hc) (hx qz6) qz6) ?_;refine R5 ?_;refine A3 ?_ ?_
 ·intro h32;have hc : i < l.length ∧ x = n := by simpa using h32
  have he := hs1 x (hx0 hc.1) hc.2;rw [he];refine R6 ?_;exact D6 rfl (A6 rfl qz174)
 intro h32;have hc : i < l.length → x ≠ n := fun h => by simpa [h] using h32
 have he := hs2 (fun z hz => by (have hzl := (E9.1 hz).1; rw [hx0 hzl] at hz; injection hz with hz; subst hz; exact hc hzl));rw [he];refine R3 ?_;refine P6 rfl rfl rfl rfl G5 E7 ?_;intro v34;refine R2 ?_;refine A1 rfl (AG9 rfl G5 E7 (A0 rfl) (A0 rfl) qz2 qz2) ?_;refine H4 (by' := 8) 0 rfl rfl rfl rfl G5 Tryz.type3 rfl rfl rfl rfl rfl rfl (A0 rfl) (A0 rfl) rfl (by simp only [A7, F4, Q1]; omega) ?_;intro v38_1;refine R7 ?_;refine H4 (by' := 8) 0 rfl rfl rfl rfl G5 Tryz.type3 rfl rfl rfl rfl rfl rfl (A0 rfl) (A0 rfl) rfl CA4 ?_;intro v42_2;refine R7 ?_;refine A1 rfl (BG7 rfl G5 E7 (A0 rfl) (A0 rfl) qz2 qz2) ?_;refine H4 (by' := 8) 0 rfl rfl rfl rfl G5 Tryz.type3 rfl rfl rfl rfl rfl rfl (A0 rfl) (A0 rfl) rfl CA4 ?_;intro v47_3;refine R3 ?_;refine Ak0 0 4 rfl rfl ?_;exact D6 rfl (A6 rfl qz174)) : p := h
namespace tw7n0
def tw7x0 := @Bv6
end tw7n0
open tw7n0 in
theorem Cw5 (l : List Int) (n : Int) (hl : l.length ≤ 4194303) : E1 348 [ints l, AV.int n] (ints (AO0 l n)) := Cq4
theorem Cd3 (l : List G2) (x : G2) (hl : l.length ≤ 4194303) : E1 349 [AV.list 3 (l.map G2.cs), AV.agg x.cs] (ints (AA2 l x)) := by
 refine B3 Tryz.func349 rfl Tryz.ntmps349 rfl ?_;refine R3 ?_;intro b3;refine A1 rfl (G1 rfl (Y5 (sz := 1))) ?_;refine R3 ?_;refine A1 rfl (G1 rfl (Y5 (sz := 1))) ?_;refine R9 ?_;refine F2 [(3, _), (4, _), (8, _), (9, _)] _ (fun (i : Nat) => i ≤ l.length) (fun i => []) (fun i => [(5, ints (AA2 (l.take i) x)), (10, AV.int i)]) (fun i => l.length - i) (0) ?_ (G3 A8) ?_
 ·exact E2 _
 intro i hinv;refine R5 ?_;refine A3 ?_ ?_
 ·intro h11;have k11 := C5 h11;have hlt : i < l.length := by omega
  obtain ⟨y, hy⟩ := B4 hlt;have hwt := Cd1 (x := x) hy;have hwl := Bk0 (l.take i) x;rw [F4] at hwl;refine R5 ?_;refine A1 rfl (D3 rfl T0 i8 (A0 rfl) (A0 rfl) hy qz2) ?_;refine R2 ?_;intro b7;refine R6 ?_;refine A1 rfl (A5 rfl Tryz.call97 rfl (BN7 _ _) F0) ?_;refine R1 ?_;refine A3 ?_ ?_
  ·intro h16;have hout : AO0 (AA2 (l.take i) x) y.Txn = AA2 (l.take (i + 1)) x := by rw [hwt, D0 h16]
   refine R4 ?_;refine A1 rfl (A5 rfl Tryz.call348 rfl (Cw5 _ _ W1) (A2 (A0 rfl) (A2 (A0 rfl) B0))) ?_;refine R6 ?_;refine G4 i (i + 1) ?_ ?_ (S5 1 ⟨C3 (fun z => some (ints z)) hout, rfl, rfl, rfl, rfl, rfl, trivial⟩)
   ·omega
   omega
  intro h16;have hout : AA2 (l.take i) x = AA2 (l.take (i + 1)) x := by rw [hwt, C6 (by rw [h16]; decide)]
  refine R5 ?_;refine G4 i (i + 1) ?_ ?_ (S5 1 ⟨C3 (fun z => some (ints z)) hout, rfl, rfl, rfl, rfl, rfl, trivial⟩)
  ·omega
  omega
 intro h11;have k11 := B9 h11;have hge : l.length ≤ i := by omega
 rw [P8 hge];refine R7 ?_;exact D6 rfl (A6 rfl C1)
theorem Cd4 (l : List G2) (fixed : List Int) (x : G2) (hl : l.length ≤ 4194303) : E1 331 [AV.list 3 (l.map G2.cs), ints fixed, AV.agg x.cs] (AV.tup [AV.int (Aq6 l fixed x (AA2 l x)).1, ints (Aq6 l fixed x (AA2 l x)).2]) := by
 obtain ⟨w, hw⟩ : ∃ w, AA2 l x = w := ⟨_, rfl⟩;have hwl := Bk0 l x;rw [hw] at hwl;refine B3 Tryz.func331 rfl Tryz.ntmps331 rfl ?_;refine R3 ?_;intro b5;refine R1 ?_;refine A1 rfl (G1 rfl (Y5 (sz := 1))) ?_;refine R5 ?_;refine A1 rfl (A5 rfl Tryz.call349 rfl (Cd3 _ _ W1) (A2 (A0 rfl) (A2 (A0 rfl) B0))) ?_;refine R4 ?_;rw [hw];refine R5 ?_;refine A3 ?_ ?_
 ·intro h16;have k16 := J9 h16;(try simp only [A7] at k16);have he : Aq6 l fixed x w = (1, []) := by (unfold Aq6; rw [D0 qz8])
  rw [he];refine R3 ?_;refine A1 rfl (G1 rfl (Y5 (sz := 1))) ?_;refine R2 ?_;exact f7 rfl F1 AD2
 intro h16;have k16 := J5 h16;(try simp only [A7] at k16);refine R9 ?_;refine F2 [(1, _), (5, _), (8, _), (17, _), (18, _)] _ (fun (i : Nat) => i ≤ w.length ∧ (w.any fun t => decide (t < x.Txn) || fixed.any fun y => t == y) = ((w.drop i).any fun t => decide (t < x.Txn) || fixed.any fun y => t == y)) (fun i => []) (fun i => [(19, AV.int i)]) (fun i => w.length - i) (0) ?_ (G3 A8) ?_
 ·exact ⟨E2 _, rfl⟩
 intro i hinv;refine R5 ?_;refine A3 ?_ ?_
 ·intro h20;have k20 := C5 h20;have hlt : i < w.length := by omega
  obtain ⟨y, hx⟩ := B4 hlt;refine R5 ?_;refine A1 rfl (D3 rfl G5 E7 (A0 rfl) (A0 rfl) hx qz2) ?_;refine R12 ?_;refine Q7 rfl (fun hc => A5 rfl Tryz.call350 rfl (DF4 _ _) (A2 (A9 rfl hc) (A2 (A9 rfl hc) B0))) ?_;refine R2 ?_;refine A3 ?_ ?_
  ·intro h31;have hany : (w.any fun t => decide (t < x.Txn) || fixed.any fun y => t == y) = true := by (rw [hinv.2, I8 hx, Ab1, h31]; rfl)
   have he : Aq6 l fixed x w = (2, []) := by (unfold Aq6; rw [C6 qz8, D0 hany])
   rw [he];refine R3 ?_;refine A1 rfl (G1 rfl (Y5 (sz := 1))) ?_;refine R2 ?_;exact f7 rfl F1 AD2
  intro h31;refine R5 ?_;refine G4 i (i + 1) ?_ ?_ (G3 A8)
  ·exact ⟨by omega, by rw [hinv.2, I8 hx, Ab1, h31]; rfl⟩
  omega
 intro h20;have k20 := B9 h20;have hge : w.length ≤ i := by omega
 have hany : (w.any fun t => decide (t < x.Txn) || fixed.any fun y => t == y) = false := by (rw [hinv.2, k6 hge]; rfl)
 have he : Aq6 l fixed x w = (3, w) := by (unfold Aq6; rw [C6 qz8, C6 (by rw [hany]; decide)])
 rw [he];refine R8 ?_;exact f7 rfl F1 AD2
theorem Bv7 {α β : Type} {c : α → β} : ∀ {l : List α} {k : Nat} {y : α}, l[k]? = some y → l.map c = (l.take k).map c ++ c y :: (l.drop (k + 1)).map c
  | [], k, y, h => by simp at h
  | x :: l, 0, y, h => by simp at h; subst h; rfl
  | x :: l, k + 1, y, h => by
    rw [U8, Bv7 (c := c) (l := l) (k := k) (y := y) AO9]; rfl
theorem map_len9 {α β : Type} {c : α → β} {l : List α} {k : Nat} {y : α} (h : l[k]? = some y) : ((l.take k).map c).length = k := by
  have := (E9.1 h).1;rw [A7, F4]; omega
theorem Bk1 {l : List G2} {x : G2} {i : Nat} (h : AH4 l x = l.take i ++ AH4 (l.drop i) x) {y : G2} (hy : l[i]? = some y) :
    (((y.Key == x.Key) && (y.Txn == x.Txn)) = true → AH4 l x = l.take i ++ ⟨y.Key, y.Txn, y.Write || x.Write⟩ :: l.drop (i + 1)) ∧ (((y.Key == x.Key) && (y.Txn == x.Txn)) = false → AH4 l x = l.take (i + 1) ++ AH4 (l.drop (i + 1)) x) := by
  rw [I8 hy] at h;constructor
  · intro hc
    rw [h]; unfold AH4; rw [hc, D0 rfl]
  · intro hc
    rw [h, T5, hy]; rw [AH4, hc, C6 F1]; simp
theorem CP5 (l : List G2) (x : G2) (hl : l.length ≤ 4194303) : E1 332 [AV.list 3 (l.map G2.cs), AV.agg x.cs] (AV.list 3 ((AH4 l x).map G2.cs)) := by
 refine B3 Tryz.func332 rfl Tryz.ntmps332 rfl ?_;refine R3 ?_;intro b3;refine A1 rfl (G1 rfl (Y5 (sz := 3))) ?_;refine R3 ?_;refine P6 rfl rfl rfl rfl T0 i8 ?_;intro v8;refine R1 ?_;refine H4 (by' := 32) 0 rfl rfl rfl rfl T0 Tryz.type139 rfl rfl rfl rfl rfl rfl (A0 rfl) (A0 rfl) rfl qz2 ?_;intro v10_1;refine R10 ?_;refine G0 (C3 (fun z => Own.arr v10_1 139 3 z :: _) (AC0 _)) ?_;refine F2 [(3, _), (5, _), (11, _), (12, _)] _ (fun (i : Nat) => i ≤ l.length ∧ AH4 l x = l.take i ++ AH4 (l.drop i) x) (fun i => []) (fun i => [(13, AV.int i)]) (fun i => l.length - i) (0) ?_ (G3 A8) ?_
 ·exact ⟨E2 _, rfl⟩
 intro i hinv;refine R5 ?_;refine A3 ?_ ?_
 ·intro h14;have k14 := C5 h14;have hlt : i < l.length := by (simp only [H3, Q1, A7, V8] at k14; omega)
  obtain ⟨y, hy⟩ := B4 hlt;refine R6 ?_;refine A1 rfl (H6 0 rfl T0 i8 (A0 rfl) rfl (A0 rfl) qz8 qz168) ?_;refine A1 rfl (n6 0 rfl (A0 rfl) rfl Tryz.isAgg139 i8 (by rw [l4, X2, hy]; rfl) F1) ?_;refine R1 ?_;intro b7;refine R18 ?_;refine A3 ?_ ?_
  ·intro h29;have he := (Bk1 hinv.2 hy).1 h29;have hA := map_len9 (c := G2.cs) hy;rw [he, X1, U8];refine G0 (C3 (fun z => _ :: Own.arr v10_1 139 3 z :: _) (Bv7 hy)) ?_;refine R10 ?_;refine A1 rfl (H6 1 rfl T0 i8 (A0 rfl) rfl (A0 rfl) qz8 qz168) ?_;refine A1 rfl (L7 1 rfl Tryz.underlying139 rfl V0 (A0 rfl) rfl rfl (AE5 qz2)) ?_;refine Af9 1 rfl rfl rfl (A0 rfl) (A0 rfl) (Af8 _) rfl V0 qz2 rfl ?_;refine R7 ?_;refine Ak0 1 4 rfl rfl ?_;exact D6 rfl (A6 rfl C1)
  intro h29;refine R5 ?_;refine G4 i (i + 1) ?_ ?_ (S5 1 A8)
  ·exact ⟨by omega, (Bk1 hinv.2 hy).2 h29⟩
  omega
 intro h14;have k14 := B9 h14;have hge : l.length ≤ i := by (simp only [H3, Q1, A7, V8] at k14; omega)
 have he : AH4 l x = l ++ [x] := by (have := hinv.2; rwa [P8 hge, k6 hge] at this)
 rw [he, X1, U8];refine R6 ?_;refine H4 (by' := 32) 0 rfl rfl rfl rfl T0 Tryz.type139 rfl rfl rfl rfl rfl rfl (A0 rfl) (A0 rfl) rfl CS0 ?_;intro v45_2;refine R3 ?_;refine Ak0 0 4 rfl rfl ?_;exact D6 rfl (A6 rfl C1)
def AW4 (l : List G2) (t : Int) (of : Bool) : List G2 := l.filter fun y => ((y.Txn == t) == of)
theorem Cl3 {l : List G2} {t : Int} {of : Bool} {i : Nat} {y : G2} (hy : l[i]? = some y) : (AW4 (l.take (i + 1)) t of).map G2.cs = (AW4 (l.take i) t of).map G2.cs ++ (if ((y.Txn == t) == of) = true then [G2.cs y] else []) := by
  unfold AW4;rw [T5, hy, List.filter_append, X1]
  cases h : ((y.Txn == t) == of) <;> simp [h]
theorem Cw6 (l : List G2) (t : Int) (of : Bool) : (AW4 l t of).length ≤ l.length := List.length_filter_le _ _
theorem Cl4 (l : List G2) (t : Int) (of : Bool) (hl : l.length ≤ 4194303) : E1 280 [AV.list 3 (l.map G2.cs), AV.int t, AV.bool of] (AV.list 3 ((AW4 l t of).map G2.cs)) := by
 refine B3 Tryz.func280 rfl Tryz.ntmps280 rfl ?_;refine R2 ?_;refine A1 rfl (G1 rfl (Y5 (sz := 3))) ?_;refine R3 ?_;refine c7 139 3 rfl rfl rfl rfl I9 ?_;intro v7;refine R9 ?_;refine J0 [(1, _), (2, _), (6, _), (10, _), (11, _)] _ (fun (i : Nat) (v : Value) => i ≤ l.length) (fun i v => [.arr v 139 3 ((AW4 (l.take i) t of).map G2.cs)]) (fun i v => [(7, AV.is v), (12, AV.int i)]) (fun i v => l.length - i) (0) (v7) ?_ (K1 C1 A8) ?_
 ·exact E2 _
 intro i v hinv;refine R5 ?_;refine A3 ?_ ?_
 ·intro h13;have k13 := C5 h13;have hlt : i < l.length := by omega
  obtain ⟨y, hy⟩ := B4 hlt;have hst := Cl3 (t := t) (of := of) hy;have hpl := Cw6 (l.take i) t of;rw [F4] at hpl;refine R5 ?_;refine A1 rfl (D3 rfl T0 i8 (A0 rfl) (A0 rfl) hy qz2) ?_;refine R2 ?_;intro b9;refine R9 ?_;refine A1 rfl (CU3 rfl m3 (A0 rfl) (A0 rfl)) ?_;refine R1 ?_;refine A3 ?_ ?_
  ·intro h21;have hout : (AW4 (l.take i) t of).map G2.cs ++ [G2.cs y] = (AW4 (l.take (i + 1)) t of).map G2.cs := by rw [hst, D0 h21]
   refine R4 ?_;refine H4 (by' := 32) 1 rfl rfl rfl rfl T0 Tryz.type139 rfl rfl rfl rfl rfl rfl (A0 rfl) (A0 rfl) rfl CS0 ?_;intro v25_1;refine R6 ?_;refine G8 i v (i + 1) (v25_1) ?_ ?_ (Le.trans (B8 [0, 0] rfl) (E5 1 (by exact C3 (fun z => [Own.arr _ 139 3 z]) hout) A8))
   ·omega
   omega
  intro h21;have hout : (AW4 (l.take i) t of).map G2.cs = (AW4 (l.take (i + 1)) t of).map G2.cs := by rw [hst, C6 (by rw [h21]; decide), Q6]
  refine R5 ?_;refine G8 i v (i + 1) (v) ?_ ?_ (Le.trans (B8 [0, 0] rfl) (E5 1 (by exact C3 (fun z => [Own.arr _ 139 3 z]) hout) A8))
  ·omega
  omega
 intro h13;have k13 := B9 h13;have hge : l.length ≤ i := by omega
 rw [P8 hge];refine R7 ?_;refine Ak0 0 6 rfl rfl ?_;exact D6 rfl (A6 rfl C1)
end Go.PQ
namespace Go.Proofs
open Go.Shelf
def Tryz.itoa_ren : Go.Shelf.Ren := ⟨fun | 171 => 125 | 243 => 150 | 246 => 178 | 283 => 216 | 284 => 217 | 285 => 218 | 286 => 219 | 129 => 267 | 317 => 266 | 318 => 268 | 319 => 269 | 320 => 270 | 337 => 300 | 338 => 301 | n => n, fun | 3 => 3 | 9 => 9 | 2 => 2 | 4 => 4 | 171 => 260 | 0 => 0 | 53 => 46 | 37 => 22 | 5 => 5 | 173 => 263 | 212 => 302 | 51 => 303 | 20 => 20 | 213 => 304 | 46 => 127 | 232 => 343 | 233 => 344 | n => n, fun | 17 => 2 | 18 => 4 | 19 => 5 | n => n⟩
theorem Tryz.itoa : Go.Proofs.LaysM.n171 Tryz.prog Tryz.itoa_ren := {
  mixed := by kernel_rfl
  f129 := Tryz.func267.trans (C3 some D4)
  f171 := Tryz.func125.trans (C3 some D4)
  f243 := Tryz.func150.trans (C3 some D4)
  f246 := Tryz.func178.trans (C3 some D4)
  f283 := Tryz.func216.trans (C3 some D4)
  f284 := Tryz.func217.trans (C3 some D4)
  f285 := Tryz.func218.trans (C3 some D4)
  f286 := Tryz.func219.trans (C3 some D4)
  f317 := Tryz.func266.trans (C3 some D4)
  f318 := Tryz.func268.trans (C3 some D4)
  f319 := Tryz.func269.trans (C3 some D4)
  f320 := Tryz.func270.trans (C3 some D4)
  f337 := Tryz.func300.trans (C3 some D4)
  f338 := Tryz.func301.trans (C3 some D4)
  t0 := Tryz.underlying0
  a0 := Tryz.isAgg0
  z0 := Tryz.sizeOf0
  v0 := Tryz.zeroValue0
  t2 := Tryz.underlying2
  a2 := Tryz.isAgg2
  z2 := Tryz.sizeOf2
  v2 := Tryz.zeroValue2
  t3 := o6
  a3 := Q8
  z3 := E7
  v3 := Tryz.zeroValue3
  t4 := m3
  a4 := AG0
  z4 := V0
  v4 := Tryz.zeroValue4
  t5 := AC2
  a5 := Tryz.isAgg5
  z5 := Tryz.sizeOf5
  v5 := Tryz.zeroValue5
  t9 := O5
  a9 := j4
  z9 := I2
  v9 := Tryz.zeroValue9
  t20 := Tryz.underlying20
  a20 := Tryz.isAgg20
  z20 := Tryz.sizeOf20
  v20 := Tryz.zeroValue20
  t37 := q6
  a37 := Tryz.isAgg22
  z37 := Tryz.sizeOf22
  v37 := Tryz.zeroValue22
  t46 := Tryz.underlying127
  a46 := Tryz.isAgg127
  z46 := Tryz.sizeOf127
  v46 := Tryz.zeroValue127
  t51 := Tryz.underlying303
  a51 := Tryz.isAgg303
  z51 := Tryz.sizeOf303
  v51 := Tryz.zeroValue303
  t53 := AH7
  a53 := Tryz.isAgg46
  z53 := Tryz.sizeOf46
  v53 := Tryz.zeroValue46
  t171 := Tryz.underlying260
  a171 := Tryz.isAgg260
  z171 := Tryz.sizeOf260
  v171 := Tryz.zeroValue260
  t173 := Tryz.underlying263
  a173 := Tryz.isAgg263
  z173 := Tryz.sizeOf263
  v173 := Tryz.zeroValue263
  t212 := Tryz.underlying302
  a212 := Tryz.isAgg302
  z212 := Tryz.sizeOf302
  v212 := Tryz.zeroValue302
  t213 := Tryz.underlying304
  a213 := Tryz.isAgg304
  z213 := Tryz.sizeOf304
  t232 := Tryz.underlying343
  a232 := Tryz.isAgg343
  z232 := Tryz.sizeOf343
  v232 := Tryz.zeroValue343
  t233 := Tryz.underlying344
  a233 := Tryz.isAgg344
  z233 := Tryz.sizeOf344
  v233 := Tryz.zeroValue344
  g17 := by kernel_rfl
  g18 := by kernel_rfl
  g19 := by kernel_rfl
  i0 := by kernel_rfl
  i2 := by kernel_rfl
  i3 := by kernel_rfl
  i4 := by kernel_rfl
  i5 := by kernel_rfl
  i9 := by kernel_rfl
  i20 := by kernel_rfl
  i37 := by kernel_rfl
  i46 := by kernel_rfl
  i51 := by kernel_rfl
  i53 := by kernel_rfl
  i171 := by kernel_rfl
  i173 := by kernel_rfl
  i212 := by kernel_rfl
  i232 := by kernel_rfl
  i233 := by kernel_rfl
  m17 := by kernel_rfl
  m18 := by kernel_rfl
  m19 := by kernel_rfl }
end Go.Proofs
namespace Go.PQ
open Go.Proofs
open Go Go.AV Go.M
attribute [local irreducible] OpW OpA OpS AWP J6 L3 K7 OpE K2 H9 K6 Le Ev F7 M7 Int.tmod Int.tdiv IntKind.wrap
def tabW (w : World) : Prop := Lib.TabIs Tryz.prog w "internal/strconv.uint64pow10" .u64 Lib.pow10Tab
theorem DF6 {W w' : World} (h : tabW W) (hw : RLe (Ao5 W) w') : tabW w' := Cr9 h hw
theorem DF7 {W : World} {rest : List (String × DataW Unit)} (h : laidMet Tryz.prog (("internal/strconv.uint64pow10", Lib.tabData .u64 Lib.pow10Tab) :: rest) W) : tabW W :=
  Lib.tabIs_of_head (g := 2) (t := 302) D4 D4 Tryz.underlying302 AH7 D4 D4 h
theorem DF8 (n : Int) (h : -9223372036854775808 ≤ n ∧ n ≤ 9223372036854775807) : E1 125 [AV.wt tabW (AV.int n)] (AV.str (AO8 n)) :=
  CW2 fun R w v hr hv hT => by
    rw [show v = Value.int .i64 n from hv];refine (Any.strconv_Itoa Tryz.itoa n h.1 h.2 w hT).mono ?_
    rintro e w' ⟨rfl, k, os, rfl⟩
    exact ⟨_, rfl, rfl, Ch1 w k os⟩
theorem Bv8 (n : Nat) : n ≤ 1000000000000 → E1 329 [AV.int n] (AV.str (u6 n)) := by
 induction n using Nat.strongRecOn with
 | ind n ih =>
  intro hn;refine B3 Tryz.func329 rfl Tryz.ntmps329 rfl ?_;refine R2 ?_;refine A1 rfl (G1 rfl (S8 (l := []) rfl)) ?_;refine R7 ?_;refine A3 ?_ ?_
  ·intro h4;have k4 := C5 h4;have hn10 : n < 10 := by omega
   refine R4 ?_;refine A1 rfl (Ah9 rfl D4 AC2 (A0 rfl)) ?_;rw [dig1];refine R1 ?_;refine A1 rfl (Co2 (bs := [UInt8.ofNat (48 + n)]) rfl q6 AC2 O5 (A0 rfl)) ?_;refine R3 ?_;exact D6 rfl (A6 rfl qz173)
  intro h4;have k4 := B9 h4;have hn10 : ¬ n < 10 := by omega
  have hdl := As5 (k := 12) (n := n / 10) qz8 F1;refine R4 ?_;refine C0 rfl rfl (CS7 rfl (A0 rfl) L1 F1) ?_;rw [quo10 hn];refine C0 rfl rfl (A5 rfl Tryz.call329 rfl (ih (n / 10) qz8 qz8) J3) ?_;refine R1 ?_;refine C0 rfl rfl (BQ2 rfl (A0 rfl) L1 F1) ?_;refine C0 rfl rfl (BX1 rfl L1 (A0 rfl) (by rw [tmod10T]; omega)) ?_;refine C0 rfl rfl (Ah9 rfl D4 AC2 (A0 rfl)) ?_;rw [dig2];refine R1 ?_;refine C0 rfl rfl (Co2 (bs := [UInt8.ofNat (48 + n % 10)]) rfl q6 AC2 O5 (A0 rfl)) ?_;refine C0 rfl rfl (w_cat rfl (A0 rfl) (A0 rfl) qz184) ?_;refine R3 ?_;exact D6 rfl (A6 rfl qz173)
theorem DF9 (b : UInt8) (r : Str) : Ax0 (b :: r) = (!within ((b :: r).length : Nat) 1 6 || (((b.toNat : Int) == 48) && decide ((1 : Int) < ((b :: r).length : Nat)))) := by
  unfold Ax0;have : (b == 48) = ((b.toNat : Int) == 48) := by
    by_cases h : b = 48
    · subst h; rfl
    · have h2 : b.toNat ≠ 48 := fun e => h (UInt8.toNat_inj.1 e)
      have h3 : (b == 48) = false := by simpa using h
      rw [h3]; symm; simp; omega
  simp [this]
theorem dig_val9 {x : UInt8} (h : 48 ≤ x.toNat ∧ x.toNat ≤ 57) : IntKind.i64.wrap (IntKind.u8.wrap ((x.toNat : Int) - 48)) = ((x.toNat - 48 : Nat) : Int) := by
  have e : IntKind.u8.wrap ((x.toNat : Int) - 48) = ((x.toNat - 48 : Nat) : Int) := by
    simp [IntKind.wrap, IntKind.bits, IntKind.signed]; omega
  rw [e, BC7 qz8]
theorem rd_next9 {n i : Nat} {s : Str} {x : UInt8} (hx : s[i]? = some x) (h : 48 ≤ x.toNat ∧ x.toNat ≤ 57) : X6 n (s.drop i) = X6 (10 * n + (x.toNat - 48)) (s.drop (i + 1)) := by
  have hlt := (E9.1 hx).1;rw [List.drop_eq_getElem_cons hlt, (E9.1 hx).2];conv => lhs; unfold X6
  rw [D0 (by unfold Av5; simp; omega)]
theorem rd_stop9 {n i : Nat} {s : Str} {x : UInt8} (hx : s[i]? = some x) (h : x.toNat < 48 ∨ 57 < x.toNat) : X6 n (s.drop i) = -1 := by
  have hlt := (E9.1 hx).1;rw [List.drop_eq_getElem_cons hlt, (E9.1 hx).2];conv => lhs; unfold X6
  rw [C6 (by unfold Av5; simp; omega)]
theorem pow69 {i : Nat} (h : i ≤ 6) : 10 ^ i ≤ 1000000 := Nat.pow_le_pow_right F1 h
theorem pow_nx9 {n i d : Nat} (h : n + 1 ≤ 10 ^ i) (hd : d ≤ 9) : (10 * n + d) + 1 ≤ 10 ^ (i + 1) := by rw [Nat.pow_succ]; omega
theorem Cl5 : E1 81 [AV.str []] (AV.int (l1R [])) := by
 refine B3 Tryz.func81 rfl Tryz.ntmps81 rfl ?_;refine R9 ?_;refine A1 rfl (A5 rfl Tryz.call24 rfl (P3 _ _ _) AJ2) ?_;refine R3 ?_;refine Q7 rfl (fun hc => (show OpW _ _ _ _ _ _ (AV.byte 0) from (by exfalso; revert hc; decide))) ?_;refine R8 ?_;refine A3 ?_ ?_
 ·intro h18;refine R5 ?_;exact D6 rfl (A6 rfl C1)
 intro h18;exfalso; revert h18; decide
theorem Cd5 (b : UInt8) (r : Str) (hs : (b :: r).length ≤ 1048576) : E1 81 [AV.str (b :: r)] (AV.int (l1R (b :: r))) := by
 have hb0 : (b :: r)[0]? = some b := rfl;obtain ⟨s, hse⟩ : ∃ s, b :: r = s := ⟨_, rfl⟩;have hbad := DF9 b r;rw [hse] at hs hb0 hbad ⊢;refine B3 Tryz.func81 rfl Tryz.ntmps81 rfl ?_;refine R9 ?_;refine A1 rfl (A5 rfl Tryz.call24 rfl (P3 _ _ _) AJ2) ?_;refine R3 ?_;refine Q7 rfl (fun hc => AU4 rfl O5 (A9 rfl hc) L1 (by have := (E9.1 hb0).1; omega) hb0) ?_;refine R8 ?_;refine A3 ?_ ?_
 ·intro h18;have he : l1R s = -1 := D0 (by rw [hbad]; exact h18);rw [he];refine R5 ?_;exact D6 rfl (A6 rfl C1)
 intro h18;have he : l1R s = X6 0 s := C6 (by rw [hbad, h18]; decide);rw [he];have hl6 : s.length ≤ 6 := (by simp only [r5, AD5] at h18; have h9 := h18.1; unfold within at h9; simp at h9; omega);refine R11 ?_;refine J0 [(0, _)] _ (fun (i : Nat) (n : Nat) => i ≤ s.length ∧ X6 0 s = X6 n (s.drop i) ∧ n + 1 ≤ 10 ^ i) (fun i n => []) (fun i n => [(3, AV.int n), (4, AV.int i)]) (fun i n => s.length - i) (0) (0) ?_ (G3 A8) ?_
 ·exact ⟨E2 _, rfl, by decide⟩
 intro i n hinv;have hp6 := pow69 (i := i) qz8;refine R8 ?_;refine A3 ?_ ?_
 ·intro h22;have k22 := C5 h22;obtain ⟨x, hx⟩ := B4 (show i < s.length by omega);refine R8 ?_;refine A1 rfl (AU4 rfl O5 (A0 rfl) (A0 rfl) qz8 hx) ?_;refine R4 ?_;refine Q7 rfl (fun hc => AU4 rfl O5 (A9 rfl hc) (A9 rfl hc) qz8 hx) ?_;refine R3 ?_;refine A3 ?_ ?_
  ·intro h34;have hst := rd_stop9 (n := n) hx (by simp only [AA9, H1] at h34; omega);rw [hinv.2.1, hst];refine R5 ?_;exact D6 rfl (A6 rfl C1)
  intro h34;have hdig : 48 ≤ x.toNat ∧ x.toNat ≤ 57 := (by simp only [r5, w5] at h34; omega);refine R3 ?_;refine A1 rfl (Ah8 rfl L1 (A0 rfl) qz2) ?_;refine R2 ?_;refine A1 rfl (AU4 rfl O5 (A0 rfl) (A0 rfl) qz8 hx) ?_;refine A1 rfl (w_sub rfl (A0 rfl) L1) ?_;refine A1 rfl (Ah9 rfl D4 o6 (A0 rfl)) ?_;rw [dig_val9 hdig];refine R8 ?_;refine G8 i n (i + 1) (10 * n + (x.toNat - 48)) ?_ ?_ (G3 ⟨C3 (fun z => some (AV.int z)) qz8, rfl, rfl, trivial⟩)
  ·exact ⟨by omega, hinv.2.1.trans (rd_next9 hx hdig), pow_nx9 hinv.2.2 qz8⟩
  omega
 intro h22;have k22 := B9 h22;have hend : X6 0 s = (n : Int) := (by rw [hinv.2.1, List.drop_of_length_le qz8]; rfl);rw [hend];refine R7 ?_;exact D6 rfl (A6 rfl C1)
theorem Bb8 (s : Str) (hs : s.length ≤ 1048576) : E1 81 [AV.str s] (AV.int (l1R s)) := by
  cases s with
  | nil => exact Cl5
  | cons b r => exact Cd5 b r hs
theorem Cd6 (s : Str) : -1 ≤ l1R s := by
  have h : ∀ (s : Str) (n : Nat), -1 ≤ X6 n s := by
    intro s;induction s with
    | nil => intro n; unfold X6; omega
    | cons b s ih => intro n; unfold X6; split; exact ih _; omega
  unfold l1R; split
  · omega
  · exact h s 0
theorem rd_up9 : ∀ (s : Str) (n k : Nat), n + 1 ≤ 10 ^ k → X6 n s + 1 ≤ 10 ^ (k + s.length)
  | [], n, k, h => by
    have : ((n + 1 : Nat) : Int) ≤ ((10 ^ k : Nat) : Int) := Int.ofNat_le.2 h;simp only [X6, Q1, Nat.add_zero]
    push_cast at this ⊢; exact this
  | b :: s, n, k, h => by
    unfold X6;split
    · rename_i hd
      have h2 : b.toNat - 48 ≤ 9 := by unfold Av5 at hd; simp at hd; omega
      have := rd_up9 s (10 * n + (b.toNat - 48)) (k + 1) (by rw [Nat.pow_succ]; omega);rw [H8, show k + (s.length + 1) = k + 1 + s.length by omega]; exact this
    · have : (0 : Int) ≤ 10 ^ (k + (b :: s).length) := Int.pow_nonneg F1
      omega
theorem Cq5 (s : Str) : l1R s ≤ 999999 := by
  unfold l1R; split
  · omega
  · rename_i h
    have hl : s.length ≤ 6 := by
      unfold Ax0 within at h
      simp only [AA9, not_or] at h;have := h.1; simp at this; omega
    have h1 := rd_up9 s 0 0 F1;have h2 : (10 : Int) ^ (0 + s.length) ≤ 10 ^ 6 := by
      have := Nat.pow_le_pow_right (n := 10) F1 (show 0 + s.length ≤ 6 by omega)
      exact_mod_cast this
    omega
theorem BL4 (s : Str) (hs : s.length ≤ 1048576) : E1 35 [AV.str s] (AV.tup [AV.int (l5N s).1, AV.bool (l5N s).2]) := by
 have hlo1 := Cd6 s;have hlo2 := Cd6 (s.drop 1);have hup1 := Cq5 s;have hup2 := Cq5 (s.drop 1);have hd1 : (s.drop 1).length ≤ 1048576 := by rw [p7]; omega
 obtain ⟨b0, hb0⟩ := BB6 s 0;have hneg : (decide ((0 : Int) < (s.length : Int)) && ((b0.toNat : Int) == 45)) = decide (s.head? = some 45) := by
  cases s with
  | nil => rfl
  | cons c r =>
   have e := hb0 Z1;simp at e; subst e;rw [AO5];simp only [H8, E8, H1, j0, List.head?_cons, Option.some.injEq];constructor
   ·intro h; exact UInt8.toNat_inj.1 (by have := h.2; simp; omega)
   intro h; subst h; exact ⟨by omega, rfl⟩
 refine B3 Tryz.func35 rfl Tryz.ntmps35 rfl ?_;refine R12 ?_;refine L6 rfl (fun hc => AU4 rfl O5 (A9 rfl hc) L1 qz8 (hb0 BP0)) ?_;refine R5 ?_;rw [hneg];refine R9 ?_;refine A3 ?_ ?_
 ·intro h16;have hh : s.head? = some 45 := r3 h16;have hbody : (if s.head? = some 45 then s.drop 1 else s) = s.drop 1 := D0 hh;have hl1 : 1 ≤ s.length := by (cases s with | nil => cases hh | cons c r => simp)
  refine R2 ?_;refine A1 rfl (w_ssl_lo rfl O5 (A0 rfl) L1 qz2 qz2) ?_;refine R5 ?_;refine A1 rfl (A5 rfl Tryz.call81 rfl (Bb8 _ (by first | exact hs | exact hd1)) (A2 (A0 rfl) B0)) ?_;refine R15 ?_;refine A3 ?_ ?_
  ·intro h29;have he : l5N s = (0, false) := by (unfold l5N; rw [hbody]; exact D0 h29)
   rw [he];refine R6 ?_;exact f7 rfl F1 (I3 (A6 rfl Ax2) (I3 (A6 rfl Ax2) AB5))
  intro h29;have he : l5N s = if s.head? = some 45 then (-(l1R (s.drop 1)), true) else (l1R s, true) := by (unfold l5N; rw [hbody]; exact C6 (fun e => Bool.noConfusion (e.symm.trans h29)))
  rw [he];refine R6 ?_;refine A3 ?_ ?_
  ·intro h30;rw [D0 (r3 h30)];refine R3 ?_;refine A1 rfl (w_neg rfl (A0 rfl)) ?_;refine R4 ?_;exact f7 rfl F1 (I3 (A6 rfl Ax2) (I3 (A6 rfl Ax2) AB5))
  intro h30;rw [C6 (BA5 h30)];refine R8 ?_;exact f7 rfl F1 (I3 (A6 rfl Ax2) (I3 (A6 rfl Ax2) AB5))
 intro h16;have hh : ¬ s.head? = some 45 := BA5 h16;have hbody : (if s.head? = some 45 then s.drop 1 else s) = s := C6 hh;refine R4 ?_;refine A1 rfl (A5 rfl Tryz.call81 rfl (Bb8 _ (by first | exact hs | exact hd1)) (A2 (A0 rfl) B0)) ?_;refine R15 ?_;refine A3 ?_ ?_
 ·intro h29;have he : l5N s = (0, false) := by (unfold l5N; rw [hbody]; exact D0 h29)
  rw [he];refine R6 ?_;exact f7 rfl F1 (I3 (A6 rfl Ax2) (I3 (A6 rfl Ax2) AB5))
 intro h29;have he : l5N s = if s.head? = some 45 then (-(l1R (s.drop 1)), true) else (l1R s, true) := by (unfold l5N; rw [hbody]; exact C6 (fun e => Bool.noConfusion (e.symm.trans h29)))
 rw [he];refine R6 ?_;refine A3 ?_ ?_
 ·intro h30;rw [D0 (r3 h30)];refine R3 ?_;refine A1 rfl (w_neg rfl (A0 rfl)) ?_;refine R4 ?_;exact f7 rfl F1 (I3 (A6 rfl Ax2) (I3 (A6 rfl Ax2) AB5))
 intro h30;rw [C6 (BA5 h30)];refine R8 ?_;exact f7 rfl F1 (I3 (A6 rfl Ax2) (I3 (A6 rfl Ax2) AB5))
theorem Cw7 (o : TOp) (hs : o.size ≤ 1048576) : E1 137 [AV.agg o.cs] (AV.bool (Bd7 o)) := by
 have hs' := hs; unfold TOp.size at hs';refine B3 Tryz.func137 rfl Tryz.ntmps137 rfl ?_;refine R3 ?_;intro b1;refine R7 ?_;refine A1 rfl (A5 rfl Tryz.call94 rfl (AR2 _ qz8) (A2 (A0 rfl) B0)) ?_;refine R2 ?_;refine A3 ?_ ?_
 ·intro h6;refine R5 ?_;exact D6 rfl (A6 rfl BC4)
 intro h6;refine R14 ?_;refine A3 ?_ ?_
 ·intro h9;have k9 := J9 h9;(try simp only [A7] at k9);refine R1 ?_;refine A3 ?_ ?_
  ·intro h9;have k9 := J9 h9;(try simp only [A7] at k9);refine R4 ?_;refine A1 rfl (A5 rfl Tryz.call101 rfl (Az9 _ qz8) (A2 (A0 rfl) B0)) ?_;refine R8 ?_;exact D6 rfl (A6 rfl BC4)
  intro h9;have k9 := J5 h9;(try simp only [A7] at k9);refine R6 ?_;refine A3 ?_ ?_
  ·intro h20;have k20 := J9 h20;(try simp only [A7] at k20);refine R1 ?_;refine A3 ?_ ?_
   ·intro h20;have k20 := J9 h20;(try simp only [A7] at k20);refine R4 ?_;refine A1 rfl (Ac0 rfl (A0 rfl) (S8 (l := []) rfl)) ?_;refine R3 ?_;refine L6 rfl (fun hc => A5 rfl Tryz.call24 rfl (P3 _ _ _) (A2 (A9 rfl hc) AO2)) ?_;refine R4 ?_;exact D6 rfl (A6 rfl BC4)
   intro h20;have k20 := J5 h20;(try simp only [A7] at k20);refine R19 ?_;refine L6 rfl (fun hc => Ac0 rfl (A9 rfl hc) (S8 (l := []) rfl)) ?_;refine R9 ?_;exact D6 rfl (A6 rfl BC4)
  intro h20;have k20 := J5 h20;(try simp only [A7] at k20);refine R4 ?_;refine A3 ?_ ?_
  ·intro h20;have k20 := J9 h20;(try simp only [A7] at k20);refine R4 ?_;refine A1 rfl (Ac0 rfl (A0 rfl) (S8 (l := []) rfl)) ?_;refine R3 ?_;refine L6 rfl (fun hc => A5 rfl Tryz.call24 rfl (P3 _ _ _) (A2 (A9 rfl hc) AO2)) ?_;refine R4 ?_;exact D6 rfl (A6 rfl BC4)
  intro h20;have k20 := J5 h20;(try simp only [A7] at k20);refine R19 ?_;refine L6 rfl (fun hc => Ac0 rfl (A9 rfl hc) (S8 (l := []) rfl)) ?_;refine R9 ?_;exact D6 rfl (A6 rfl BC4)
 intro h9;have k9 := J5 h9;(try simp only [A7] at k9);refine R4 ?_;refine A3 ?_ ?_
 ·intro h9;have k9 := J9 h9;(try simp only [A7] at k9);refine R4 ?_;refine A1 rfl (A5 rfl Tryz.call101 rfl (Az9 _ qz8) (A2 (A0 rfl) B0)) ?_;refine R8 ?_;exact D6 rfl (A6 rfl BC4)
 intro h9;have k9 := J5 h9;(try simp only [A7] at k9);refine R6 ?_;refine A3 ?_ ?_
 ·intro h20;have k20 := J9 h20;(try simp only [A7] at k20);refine R1 ?_;refine A3 ?_ ?_
  ·intro h20;have k20 := J9 h20;(try simp only [A7] at k20);refine R4 ?_;refine A1 rfl (Ac0 rfl (A0 rfl) (S8 (l := []) rfl)) ?_;refine R3 ?_;refine L6 rfl (fun hc => A5 rfl Tryz.call24 rfl (P3 _ _ _) (A2 (A9 rfl hc) AO2)) ?_;refine R4 ?_;exact D6 rfl (A6 rfl BC4)
  intro h20;have k20 := J5 h20;(try simp only [A7] at k20);refine R19 ?_;refine L6 rfl (fun hc => Ac0 rfl (A9 rfl hc) (S8 (l := []) rfl)) ?_;refine R9 ?_;exact D6 rfl (A6 rfl BC4)
 intro h20;have k20 := J5 h20;(try simp only [A7] at k20);refine R4 ?_;refine A3 ?_ ?_
 ·intro h20;have k20 := J9 h20;(try simp only [A7] at k20);refine R4 ?_;refine A1 rfl (Ac0 rfl (A0 rfl) (S8 (l := []) rfl)) ?_;refine R3 ?_;refine L6 rfl (fun hc => A5 rfl Tryz.call24 rfl (P3 _ _ _) (A2 (A9 rfl hc) AO2)) ?_;refine R4 ?_;exact D6 rfl (A6 rfl BC4)
 intro h20;have k20 := J5 h20;(try simp only [A7] at k20);refine R19 ?_;refine L6 rfl (fun hc => Ac0 rfl (A9 rfl hc) (S8 (l := []) rfl)) ?_;refine R9 ?_;exact D6 rfl (A6 rfl BC4)
theorem Bb9 (l : List TOp) (hs : C7 TOp.size l ≤ 1048576) : E1 98 [AV.list 4 (l.map TOp.cs)] (AV.bool (Aq5 l)) := by
 refine B3 Tryz.func98 rfl Tryz.ntmps98 rfl ?_;refine l7 (t := 0) rfl fun hl => ?_;try simp only [A7] at hl
 refine R12 ?_;refine F2 [(0, _), (5, _), (6, _)] _ (fun (i : Nat) => i ≤ l.length ∧ l.all Bd7 = (l.drop i).all Bd7) (fun i => []) (fun i => [(7, AV.int i)]) (fun i => l.length - i) (0) ?_ (G3 A8) ?_
 ·exact ⟨E2 _, rfl⟩
 intro i hinv;refine R5 ?_;refine A3 ?_ ?_
 ·intro h8;have k8 := C5 h8;have hlt : i < l.length := by omega
  obtain ⟨x, hx⟩ := B4 hlt;have hsx : x.size ≤ 1048576 := L8 (U6 hx) hs;refine R5 ?_;refine A1 rfl (D3 rfl V7 Y2 (A0 rfl) (A0 rfl) hx qz2) ?_;refine R2 ?_;intro b4;refine R5 ?_;refine A1 rfl (A5 rfl Tryz.call137 rfl (Cw7 _ W1) (A2 (A0 rfl) B0)) ?_;refine R2 ?_;refine A3 ?_ ?_
  ·intro h13;have hno : Aq5 l = false := by (unfold Aq5; rw [hinv.2, I8 hx, p8]; simp_all)
   rw [hno];refine R5 ?_;exact D6 rfl (A6 rfl (by first | rfl | exact C3 AV.bool (by unfold Aq5; rw [hall]; simp)))
  intro h13;refine R5 ?_;refine G4 i (i + 1) ?_ ?_ (S5 1 A8)
  ·exact ⟨by omega, by rw [hinv.2, I8 hx, p8]; simp_all⟩
  omega
 intro h8;have k8 := B9 h8;have hge : l.length ≤ i := by omega
 have hall : l.all Bd7 = true := by (rw [hinv.2, k6 hge]; rfl)
 refine R9 ?_;exact D6 rfl (A6 rfl (by first | rfl | exact C3 AV.bool (by unfold Aq5; rw [hall]; simp)))
end Go.PQ
namespace Go.PQ
open Go.Proofs
open Go Go.AV Go.M
attribute [local irreducible] OpW OpA OpS AWP J6 L3 K7 OpE K2 H9 K6 Le Ev F7 M7 f8 Int.tmod Int.tdiv IntKind.wrap T7
theorem Bc0 (l : List Str) (hs : ∀ k ∈ l, k.length ≤ 4611686018427387904) : E1 51 [strs l] (AV.bool (AW3 l)) := by
 refine B3 Tryz.func51 rfl Tryz.ntmps51 rfl ?_;refine l7 (t := 0) rfl fun hl => ?_;try simp only [A7] at hl
 refine R12 ?_;refine F2 [(0, _), (5, _), (6, _)] _ (fun (i : Nat) => i ≤ l.length ∧ (l.all n1 && adj Op.bytesLess l) = ((l.drop i).all n1 && adj Op.bytesLess (l.drop (i - 1)))) (fun i => []) (fun i => [(7, AV.int i)]) (fun i => l.length - i) (0) ?_ (G3 A8) ?_
 ·exact ⟨E2 _, rfl⟩
 intro i hinv;refine R5 ?_;refine A3 ?_ ?_
 ·intro h8;have k8 := C5 h8;have hlt : i < l.length := by omega
  obtain ⟨x, hx⟩ := B4 hlt;obtain ⟨y, hy⟩ := B4 (show i - 1 < l.length by omega);have hsx := hs x (C2 hx);refine R6 ?_;refine A1 rfl (AT8 rfl E3 I2 (A0 rfl) (A0 rfl) qz8 qz178) ?_;refine R7 ?_;refine A1 rfl (A5 rfl Tryz.call94 rfl (AR2 _ qz8) (A2 (A0 rfl) B0)) ?_;refine R8 ?_;refine s9 rfl rfl (X4 rfl rfl rfl) (fun hc => AT8 rfl E3 I2 (A9 rfl hc) (A9 rfl hc) (by have := r3 (Az2 hc); omega) qz97) ?_;refine R2 ?_;refine s9 rfl rfl (X4 rfl rfl rfl) (fun hc => BX2 rfl (A9 rfl hc) (A9 rfl hc)) ?_;refine R3 ?_;refine A3 ?_ ?_
  ·intro h27;have hfin : (l.all n1 && adj Op.bytesLess l) = false := by rw [hinv.2, I8 hx, p8]; cases hg : n1 x with | false => simp | true => (simp only [hg, Bool.not_true, Bool.false_or, E8, H1, i6] at h27; rw [Ad0 hx hy qz8 h27.2]; simp)
   refine R5 ?_;exact D6 rfl (A6 rfl qz136)
  intro h27;refine R5 ?_;refine G4 i (i + 1) ?_ ?_ (G3 A8)
  ·exact ⟨by omega, by rw [hinv.2, I8 hx, p8, Ac9 hx hy (fun h0 => by simp_all), show n1 x = true by simp_all]; simp⟩
  omega
 intro h8;have k8 := B9 h8;have hge : l.length ≤ i := by omega
 refine R9 ?_;exact D6 rfl (A6 rfl qz136)
theorem CP6 (l : List Str) (hs : ∀ k ∈ l, k.length ≤ 4611686018427387904) : E1 63 [strs l] (AV.bool (AW3 l)) := by
  rw [← Ck8];refine B3 Tryz.func63 rfl Tryz.ntmps63 rfl ?_;refine R11 ?_;refine L6 rfl (fun hc => A5 rfl Tryz.call46 rfl (AV0 l hs) (A2 (A9 rfl hc) B0)) ?_;refine R4 ?_;exact D6 rfl (A6 rfl (by first | rfl | exact C3 AV.bool (by unfold Bp8; simp only [A7])))
theorem Ae2 (l : List Str) (k : Str) : E1 233 [strs l, AV.str k] (AV.int (q7 l k)) := by
 refine B3 Tryz.func233 rfl Tryz.ntmps233 rfl ?_;refine l7 (t := 0) rfl fun hl => ?_;try simp only [A7] at hl
 refine R10 ?_;refine F2 [(0, _), (1, _), (4, _)] _ (fun (i : Nat) => i ≤ q7 l k) (fun i => []) (fun i => [(5, AV.int i)]) (fun i => l.length - i) (0) ?_ (G3 A8) ?_
 ·exact E2 _
 intro i hinv;refine R10 ?_;refine L6 rfl (fun hc => AT8 rfl E3 I2 (A9 rfl hc) (A9 rfl hc) qz8 (getD_row (by have h9 := r3 hc; simp only [A7] at h9; omega))) ?_;refine R2 ?_;refine L6 rfl (fun hc => w_sleq rfl (A9 rfl hc) (A9 rfl hc)) ?_;refine R2 ?_;refine A3 ?_ ?_
 ·intro h17;have h17m : (decide ((i : Int) < (l.length : Int)) && leS (l.getD i []) k) = true := by (have h9 := h17; rw [A7] at h9; exact h9)
  have hlt := (CL7 hinv h17m).1;refine R7 ?_;refine Am5 ?_;refine G4 i (i + 1) ?_ ?_ (G3 A8)
  ·exact (CL7 hinv h17m).2
  omega
 intro h17;have h17m : (decide ((i : Int) < (l.length : Int)) && leS (l.getD i []) k) = false := by (have h9 := h17; rw [A7] at h9; exact h9)
 rw [DE8 hinv h17m];refine R7 ?_;exact D6 rfl (A6 rfl C1)
end Go.PQ
namespace Go.PQ
open Go.Proofs
open Go Go.AV Go.M
attribute [local irreducible] OpW OpA OpS AWP J6 L3 K7 OpE K2 H9 K6 Le Ev F7 M7
namespace tw7n1
def tw7x0 := @Bv3
end tw7n1
open tw7n1 in
theorem Cw8 (l : List Int) (n : Int) (hl : l.length ≤ 4194303) : E1 348 [ints l, AV.int n] (ints (AG4 l n)) := Cq4
end Go.PQ
namespace Go.PQ
open Go.Proofs
open Go Go.AV Go.M
attribute [local irreducible] OpW OpA OpS AWP J6 L3 K7 OpE K2 H9 K6 Le Ev F7 M7 f8
theorem CP7 (r : List Str) (w : List A4) (hr : r.length ≤ 400000) (hw : w.length ≤ 400000) : E1 325 [strs r, AV.list 3 (w.map A4.cs)] (strs (Ah5 (r ++ Q3 w))) := by
  rw [CI4];exact L5 (CZ7 r w hr hw) fun v _ => K0 (Z5.2 rfl) F6
theorem CP8 (l ks : List Str) (hk : ks.length ≤ 1000000) : E1 324 [strs l, strs ks] (ints (Aq8 l ks)) := by
 refine B3 Tryz.func324 rfl Tryz.ntmps324 rfl ?_;refine R2 ?_;refine A1 rfl (G1 rfl (Y5 (sz := 1))) ?_;refine R3 ?_;refine A1 rfl (G1 rfl (Y5 (sz := 1))) ?_;refine R9 ?_;refine F2 [(0, _), (4, _), (8, _), (9, _)] _ (fun (i : Nat) => i ≤ ks.length) (fun i => []) (fun i => [(5, ints (Aq8 l (ks.take i))), (10, AV.int i)]) (fun i => ks.length - i) (0) ?_ (G3 A8) ?_
 ·exact E2 _
 intro i hinv;refine R5 ?_;refine A3 ?_ ?_
 ·intro h11;have k11 := C5 h11;have hlt : i < ks.length := by omega
  obtain ⟨x, hx⟩ := B4 hlt;have hle := Bv4 l (ks.take i);rw [F4] at hle;refine R5 ?_;refine A1 rfl (D3 rfl E3 I2 (A0 rfl) (A0 rfl) hx qz2) ?_;refine R7 ?_;refine A1 rfl (A5 rfl Tryz.call233 rfl (Ae2 _ _) F0) ?_;refine A1 rfl (A5 rfl Tryz.call348 rfl (Cw8 _ _ qz8) (A2 (A0 rfl) (A2 (A0 rfl) B0))) ?_;refine R6 ?_;refine G4 i (i + 1) ?_ ?_ (G3 ⟨(C3 (fun z => some (ints z)) (Cl0 hx).symm), rfl, rfl, rfl, rfl, rfl, trivial⟩)
  ·exact qz8
  omega
 intro h11;have k11 := B9 h11;have hge : ks.length ≤ i := by omega
 rw [P8 hge];refine R7 ?_;exact D6 rfl (A6 rfl C1)
end Go.PQ
namespace Go.PQ
open Go.Proofs
open Go Go.AV Go.M
attribute [local irreducible] OpW OpA OpS AWP J6 L3 K7 OpE K2 H9 K6 Le Ev F7 M7 f8 Int.tmod IntKind.wrap T7
end Go.PQ
namespace Go.PQ
open Go.Proofs
open Go Go.AV Go.M
attribute [local irreducible] OpW OpA OpS AWP J6 L3 K7 OpE K2 H9 K6 Le Ev F7 M7 f8 Int.tmod IntKind.wrap T7
end Go.PQ
namespace Go.PQ
open Go.Proofs
open Go Go.AV Go.M
attribute [local irreducible] OpW OpA OpS AWP J6 L3 K7 OpE K2 H9 K6 Le Ev F7 M7 f8 Int.tmod IntKind.wrap T7
end Go.PQ
namespace Go.PQ
open Go.Proofs
open Go Go.AV Go.M
attribute [local irreducible] OpW OpA OpS AWP J6 L3 K7 OpE K2 H9 K6 Le Ev F7 M7 f8 Int.tmod IntKind.wrap T7
end Go.PQ
namespace Go.PQ
open Go.Proofs
open Go Go.AV Go.M
attribute [local irreducible] OpW OpA OpS AWP J6 L3 K7 OpE K2 H9 K6 Le Ev F7 M7 Int.tmod IntKind.wrap T7
theorem Bv9 (b : Nat) (code : List Int) (hcode : AC3 code) (c : j9) (l : List Str) (hl : 1 ≤ l.length ∧ l.length ≤ 1000) (hp : c.p ≤ 7000000) : M1 186 [AV.ptr b 0, strs l] [.box b 48 (f9 code c)] (fun x : j9 × Str => x.1.p ≤ c.p + 2 ∧ x.2 ∈ l) (fun x => [.box b 48 (f9 code x.1)]) (fun x => AV.str x.2) := by
  obtain ⟨hl1, hl2⟩ := hl;refine C8 Tryz.func186 rfl Tryz.ntmps186 rfl ?_;refine R2 ?_;refine A1 rfl (G1 rfl (S8 (l := []) rfl)) ?_;refine R7 ?_;refine F8 [0] rfl rfl rfl rfl Tryz.call15 rfl (S2 _ _ hcode _ _ AB7 qz8) (A2 (A0 rfl) (A2 (A0 rfl) B0)) rfl ?_;intro x9 ok9;simp only [A7] at ok9;obtain ⟨y, hy⟩ := B4 (show x9.2.toNat < l.length by omega);refine A1 rfl (D3 rfl E3 I2 (A0 rfl) (A0 rfl) hy qz8) ?_;refine R4 ?_
  (refine I4 [0] ((_, _)) ?_ rfl l9 O6; exact ⟨ok9.1, C2 hy⟩)
theorem Bk2 (b : Nat) (code : List Int) (hcode : AC3 code) (c : j9) (hp : c.p ≤ 6000000) : M1 156 [AV.ptr b 0] [.box b 48 (f9 code c)] (fun x : j9 × Str => x.1.p ≤ c.p + 2 ∧ x.2 ∈ u5) (fun x => [.box b 48 (f9 code x.1)]) (fun x => AV.str x.2) := by
  refine C8 Tryz.func156 rfl Tryz.ntmps156 rfl ?_;refine R2 ?_;refine A1 rfl (G1 rfl (S8 (l := []) rfl)) ?_;refine R4 ?_;refine A1 rfl (Ar1 rfl E3 I2 Tryz.zeroValue9 rfl rfl rfl rfl (D8 (S8 (l := [97]) rfl) (q8 _) (D8 (S8 (l := [98]) rfl) (q8 _) (D8 (S8 (l := [99]) rfl) (q8 _) (D8 (S8 (l := [109]) rfl) (q8 _) (D8 (S8 (l := [110]) rfl) (q8 _) (D8 (S8 (l := [122]) rfl) (q8 _) (D8 (S8 (l := [114, 47, 49]) rfl) (q8 _) (D8 (S8 (l := [105, 47, 120, 47, 49]) rfl) (q8 _) U1)))))))) rfl rfl) ?_;refine F8 [0] rfl rfl rfl rfl Tryz.call186 rfl (Bv9 _ _ hcode _ u5 F1 qz8) (A2 (A0 rfl) (A2 (A0 rfl) B0)) rfl ?_;intro x5 ok5;refine R3 ?_
  (refine I4 [0] ((_, _)) ?_ rfl l9 O6; exact ok5)
theorem Bk3 (b : Nat) (code : List Int) (hcode : AC3 code) (c : j9) (hp : c.p ≤ 6000000) : M1 224 [AV.ptr b 0] [.box b 48 (f9 code c)] (fun x : j9 × Str => x.1.p ≤ c.p + 2 ∧ x.2 ∈ valD) (fun x => [.box b 48 (f9 code x.1)]) (fun x => AV.str x.2) := by
  refine C8 Tryz.func224 rfl Tryz.ntmps224 rfl ?_;refine R2 ?_;refine A1 rfl (G1 rfl (S8 (l := []) rfl)) ?_;refine R4 ?_;refine A1 rfl (Ar1 rfl E3 I2 Tryz.zeroValue9 rfl rfl rfl rfl (D8 (S8 (l := []) rfl) (q8 _) (D8 (S8 (l := [49]) rfl) (q8 _) (D8 (S8 (l := [55]) rfl) (q8 _) (D8 (S8 (l := [49, 48]) rfl) (q8 _) (D8 (S8 (l := [45, 51]) rfl) (q8 _) (D8 (S8 (l := [120]) rfl) (q8 _) (D8 (S8 (l := [97, 44, 98, 95, 99]) rfl) (q8 _) U1))))))) rfl rfl) ?_;refine F8 [0] rfl rfl rfl rfl Tryz.call186 rfl (Bv9 _ _ hcode _ valD F1 qz8) (A2 (A0 rfl) (A2 (A0 rfl) B0)) rfl ?_;intro x5 ok5;refine R3 ?_
  (refine I4 [0] ((_, _)) ?_ rfl l9 O6; exact ok5)
end Go.PQ
namespace Go.PQ
open Go.Proofs
open Go Go.AV Go.M
attribute [local irreducible] OpW OpA OpS AWP J6 L3 K7 OpE K2 H9 K6 Le Ev F7 M7 Int.tmod Int.tdiv IntKind.wrap T7
theorem Cw9 (b : Nat) (code : List Int) (hcode : AC3 code) (c : j9) (hp : c.p ≤ 5000000) : M1 184 [AV.ptr b 0] [.box b 48 (f9 code c)] (fun x : j9 × TOp => x.1.p ≤ c.p + 10 ∧ OpD x.2) (fun x => [.box b 48 (f9 code x.1)]) (fun x => AV.agg x.2.cs) := by
 refine C8 Tryz.func184 rfl Tryz.ntmps184 rfl ?_;refine R3 ?_;intro b2;refine R4 ?_;refine F8 [1] rfl rfl rfl rfl Tryz.call15 rfl (S2 _ _ hcode _ _ qz8 qz8) (A2 (A0 rfl) (A2 L1 B0)) rfl ?_;intro x5 ok5;refine R2 ?_;refine F8 [0] rfl rfl rfl rfl Tryz.call156 rfl (Bk2 _ _ hcode _ qz8) (A2 (A0 rfl) B0) rfl ?_;intro x8 ok8;refine R2 ?_;intro b3;refine R15 ?_;refine A3 ?_ ?_
 ·intro h12;have k12 := J9 h12;(try simp only [A7] at k12);refine R1 ?_;refine A3 ?_ ?_
  ·intro h12;have k12 := J9 h12;(try simp only [A7] at k12);refine R2 ?_;refine F8 [1] rfl rfl rfl rfl Tryz.call224 rfl (Bk3 _ _ hcode _ qz8) (A2 (A0 rfl) B0) rfl ?_;intro x16 ok16;refine R9 ?_
   (refine I4 [0] ((x16.1, ⟨1 + x5.2, x8.2, x16.2, 0⟩)) ?_ rfl l9 (M4 rfl (F3 (ys := _) 2 rfl rfl z6 Y2 rfl)); (dsimp only; first | exact ⟨by omega, Aa0 ⟨by omega, by omega⟩ BJ5 ok8.2 ok16.2⟩ | exact ⟨by omega, Ae1 ⟨by omega, by omega⟩ BJ4 ok8.2 BJ7⟩ | exact ⟨by omega, Ai6 ⟨by omega, by omega⟩ ok8.2⟩))
  intro h12;have k12 := J5 h12;(try simp only [A7] at k12);refine R6 ?_;refine A3 ?_ ?_
  ·intro h18;have k18 := J9 h18;(try simp only [A7] at k18);refine R1 ?_;refine A3 ?_ ?_
   ·intro h18;have k18 := J9 h18;(try simp only [A7] at k18);refine R3 ?_;refine F8 [1] rfl rfl rfl rfl Tryz.call37 rfl (AC7 _ _ hcode _ ([(1), (2), (5), (-3), (0), (100)] : List Int) F1 qz8) (A2 (A0 rfl) (A2 (A0 rfl) B0)) rfl ?_;intro x23 ok23;refine R9 ?_
    (refine I4 [0] ((x23.1, ⟨1 + x5.2, x8.2, [], x23.2⟩)) ?_ rfl l9 (M4 rfl (F3 (ys := _) 2 rfl rfl z6 Y2 rfl)); (dsimp only; first | exact ⟨by omega, Aa0 ⟨by omega, by omega⟩ BJ5 ok8.2 ok16.2⟩ | exact ⟨by omega, Ae1 ⟨by omega, by omega⟩ BJ4 ok8.2 BJ7⟩ | exact ⟨by omega, Ai6 ⟨by omega, by omega⟩ ok8.2⟩))
   intro h18;have k18 := J5 h18;(try simp only [A7] at k18);refine R7 ?_
   (refine I4 [1] ((x8.1, ⟨1 + x5.2, x8.2, [], 0⟩)) ?_ rfl l9 (M4 rfl (F3 (ys := _) 2 rfl rfl z6 Y2 rfl)); (dsimp only; first | exact ⟨by omega, Aa0 ⟨by omega, by omega⟩ BJ5 ok8.2 ok16.2⟩ | exact ⟨by omega, Ae1 ⟨by omega, by omega⟩ BJ4 ok8.2 BJ7⟩ | exact ⟨by omega, Ai6 ⟨by omega, by omega⟩ ok8.2⟩))
  intro h18;have k18 := J5 h18;(try simp only [A7] at k18);refine R4 ?_;refine A3 ?_ ?_
  ·intro h18;have k18 := J9 h18;(try simp only [A7] at k18);refine R3 ?_;refine F8 [1] rfl rfl rfl rfl Tryz.call37 rfl (AC7 _ _ hcode _ ([(1), (2), (5), (-3), (0), (100)] : List Int) F1 qz8) (A2 (A0 rfl) (A2 (A0 rfl) B0)) rfl ?_;intro x23 ok23;refine R9 ?_
   (refine I4 [0] ((x23.1, ⟨1 + x5.2, x8.2, [], x23.2⟩)) ?_ rfl l9 (M4 rfl (F3 (ys := _) 2 rfl rfl z6 Y2 rfl)); (dsimp only; first | exact ⟨by omega, Aa0 ⟨by omega, by omega⟩ BJ5 ok8.2 ok16.2⟩ | exact ⟨by omega, Ae1 ⟨by omega, by omega⟩ BJ4 ok8.2 BJ7⟩ | exact ⟨by omega, Ai6 ⟨by omega, by omega⟩ ok8.2⟩))
  intro h18;have k18 := J5 h18;(try simp only [A7] at k18);refine R7 ?_
  (refine I4 [1] ((x8.1, ⟨1 + x5.2, x8.2, [], 0⟩)) ?_ rfl l9 (M4 rfl (F3 (ys := _) 2 rfl rfl z6 Y2 rfl)); (dsimp only; first | exact ⟨by omega, Aa0 ⟨by omega, by omega⟩ BJ5 ok8.2 ok16.2⟩ | exact ⟨by omega, Ae1 ⟨by omega, by omega⟩ BJ4 ok8.2 BJ7⟩ | exact ⟨by omega, Ai6 ⟨by omega, by omega⟩ ok8.2⟩))
 intro h12;have k12 := J5 h12;(try simp only [A7] at k12);refine R4 ?_;refine A3 ?_ ?_
 ·intro h12;have k12 := J9 h12;(try simp only [A7] at k12);refine R2 ?_;refine F8 [1] rfl rfl rfl rfl Tryz.call224 rfl (Bk3 _ _ hcode _ qz8) (A2 (A0 rfl) B0) rfl ?_;intro x16 ok16;refine R9 ?_
  (refine I4 [0] ((x16.1, ⟨1 + x5.2, x8.2, x16.2, 0⟩)) ?_ rfl l9 (M4 rfl (F3 (ys := _) 2 rfl rfl z6 Y2 rfl)); (dsimp only; first | exact ⟨by omega, Aa0 ⟨by omega, by omega⟩ BJ5 ok8.2 ok16.2⟩ | exact ⟨by omega, Ae1 ⟨by omega, by omega⟩ BJ4 ok8.2 BJ7⟩ | exact ⟨by omega, Ai6 ⟨by omega, by omega⟩ ok8.2⟩))
 intro h12;have k12 := J5 h12;(try simp only [A7] at k12);refine R6 ?_;refine A3 ?_ ?_
 ·intro h18;have k18 := J9 h18;(try simp only [A7] at k18);refine R1 ?_;refine A3 ?_ ?_
  ·intro h18;have k18 := J9 h18;(try simp only [A7] at k18);refine R3 ?_;refine F8 [1] rfl rfl rfl rfl Tryz.call37 rfl (AC7 _ _ hcode _ ([(1), (2), (5), (-3), (0), (100)] : List Int) F1 qz8) (A2 (A0 rfl) (A2 (A0 rfl) B0)) rfl ?_;intro x23 ok23;refine R9 ?_
   (refine I4 [0] ((x23.1, ⟨1 + x5.2, x8.2, [], x23.2⟩)) ?_ rfl l9 (M4 rfl (F3 (ys := _) 2 rfl rfl z6 Y2 rfl)); (dsimp only; first | exact ⟨by omega, Aa0 ⟨by omega, by omega⟩ BJ5 ok8.2 ok16.2⟩ | exact ⟨by omega, Ae1 ⟨by omega, by omega⟩ BJ4 ok8.2 BJ7⟩ | exact ⟨by omega, Ai6 ⟨by omega, by omega⟩ ok8.2⟩))
  intro h18;have k18 := J5 h18;(try simp only [A7] at k18);refine R7 ?_
  (refine I4 [1] ((x8.1, ⟨1 + x5.2, x8.2, [], 0⟩)) ?_ rfl l9 (M4 rfl (F3 (ys := _) 2 rfl rfl z6 Y2 rfl)); (dsimp only; first | exact ⟨by omega, Aa0 ⟨by omega, by omega⟩ BJ5 ok8.2 ok16.2⟩ | exact ⟨by omega, Ae1 ⟨by omega, by omega⟩ BJ4 ok8.2 BJ7⟩ | exact ⟨by omega, Ai6 ⟨by omega, by omega⟩ ok8.2⟩))
 intro h18;have k18 := J5 h18;(try simp only [A7] at k18);refine R4 ?_;refine A3 ?_ ?_
 ·intro h18;have k18 := J9 h18;(try simp only [A7] at k18);refine R3 ?_;refine F8 [1] rfl rfl rfl rfl Tryz.call37 rfl (AC7 _ _ hcode _ ([(1), (2), (5), (-3), (0), (100)] : List Int) F1 qz8) (A2 (A0 rfl) (A2 (A0 rfl) B0)) rfl ?_;intro x23 ok23;refine R9 ?_
  (refine I4 [0] ((x23.1, ⟨1 + x5.2, x8.2, [], x23.2⟩)) ?_ rfl l9 (M4 rfl (F3 (ys := _) 2 rfl rfl z6 Y2 rfl)); (dsimp only; first | exact ⟨by omega, Aa0 ⟨by omega, by omega⟩ BJ5 ok8.2 ok16.2⟩ | exact ⟨by omega, Ae1 ⟨by omega, by omega⟩ BJ4 ok8.2 BJ7⟩ | exact ⟨by omega, Ai6 ⟨by omega, by omega⟩ ok8.2⟩))
 intro h18;have k18 := J5 h18;(try simp only [A7] at k18);refine R7 ?_
 (refine I4 [1] ((x8.1, ⟨1 + x5.2, x8.2, [], 0⟩)) ?_ rfl l9 (M4 rfl (F3 (ys := _) 2 rfl rfl z6 Y2 rfl)); (dsimp only; first | exact ⟨by omega, Aa0 ⟨by omega, by omega⟩ BJ5 ok8.2 ok16.2⟩ | exact ⟨by omega, Ae1 ⟨by omega, by omega⟩ BJ4 ok8.2 BJ7⟩ | exact ⟨by omega, Ai6 ⟨by omega, by omega⟩ ok8.2⟩))
theorem Cl6 (b : Nat) (code : List Int) (hcode : AC3 code) (c : j9) (hp : c.p ≤ 4000000) : M1 154 [AV.ptr b 0] [.box b 48 (f9 code c)] (fun x : j9 × List TOp × Value => x.1.p ≤ c.p + 100 ∧ (1 ≤ x.2.1.length ∧ x.2.1.length ≤ 4) ∧ ∀ o ∈ x.2.1, OpD o) (fun x => [.box b 48 (f9 code x.1), .arr x.2.2 183 4 (x.2.1.map TOp.cs)]) (fun x => AV.is x.2.2) := by
 refine C8 Tryz.func154 rfl Tryz.ntmps154 rfl ?_;refine R2 ?_;refine A1 rfl (G1 rfl I9) ?_;refine R3 ?_;refine c7 183 4 rfl rfl rfl rfl I9 ?_;intro v3;refine R5 ?_;refine F8 [1] rfl rfl rfl rfl Tryz.call15 rfl (S2 _ _ hcode _ _ qz8 qz8) (A2 (A0 rfl) (A2 L1 B0)) rfl ?_;intro x7 ok7;obtain ⟨n0, hn0⟩ : ∃ n0 : Nat, x7.2 = n0 := ⟨x7.2.toNat, by omega⟩;refine R4 ?_;refine AWP.le (B8 [0, 0] rfl) ?_;refine AS6 [(0, _), (2, _)] _ (fun (n : Nat) (cc : j9) (l : List TOp) (v : Value) => n + l.length = 1 + n0 ∧ cc.p ≤ c.p + 2 + 14 * l.length ∧ ∀ o ∈ l, OpD o) (fun n cc l v => [.box b 48 (f9 code cc), .arr v 183 4 (l.map TOp.cs)]) (fun n cc l v => [(3, AV.is v), (4, AV.int n)]) (fun n cc l v => n) (1 + n0) (x7.1) ([]) (v3) ?_ (K1 C1 ⟨rfl, C3 (fun z => some (AV.int z)) qz8, rfl, rfl, trivial⟩) ?_
 ·exact ⟨rfl, by simp; omega, fun o h => by cases h⟩
 intro n cc l v hinv;refine R6 ?_;refine A3 ?_ ?_
 ·intro h10;have k10 := C5 h10;have hll : l.length ≤ 4 := by omega
  refine R6 ?_;refine F8 [0] rfl rfl rfl rfl Tryz.call184 rfl (Cw9 _ _ hcode _ qz8) (A2 (A0 rfl) B0) rfl ?_;intro x14 ok14;refine R1 ?_;intro b5;refine R20 ?_;refine Ac7 rfl rfl (V1 rfl rfl rfl) ?_ ?_
  ·intro gh30;refine F8 [1] rfl rfl rfl rfl Tryz.call185 rfl (Ct8 _ _ hcode _ _ qz8 qz8) (A2 (A9 rfl gh30) (A2 L1 B0)) rfl ?_;intro x30 ok30;refine R3 ?_;refine A3 ?_ ?_
   ·intro h32;refine AWP.le (B8 [1, 1, 0] rfl) ?_;refine O8 _ [(0, false), (1, false), (2, false), (3, true), (4, false)] D4 D4 rfl (S3 2) ?_;refine R3 ?_;refine T4 rfl rfl rfl (P5 [2] rfl Tryz.call15 rfl (S2 _ _ hcode _ _ qz8 qz8) (A2 (A0 rfl) (A2 L1 B0)) rfl) (fun a _ => qz4) ?_;intro x36 ok36;refine R9 ?_;refine H4 (by' := 48) 1 rfl rfl rfl rfl V7 Tryz.type183 rfl rfl rfl rfl rfl rfl (A0 rfl) (A0 rfl) rfl qz2 ?_;intro v42_1;refine R7 ?_;refine s8 n cc l v (n - 1) (x36.1) (l ++ [⟨4, x14.2.Key, [], 1 + x36.2⟩]) (v42_1) ?_ ?_ (Le.trans (B8 [0, 1, 0] rfl) (E5 1 qz73 ⟨rfl, C3 (fun z => some (AV.int z)) qz8, rfl, rfl, trivial⟩))
    ·exact ⟨by rw [H3, H8, Q1]; omega, by rw [H3, H8, Q1]; omega, fun o ho => (o5.1 ho).elim (hinv.2.2 o) fun e => by (rw [Z5.1 e]; exact Ae1 ⟨by decide, by decide⟩ rfl ok14.2.2.1 ⟨by omega, by omega⟩)⟩
    omega
   intro h32;refine R5 ?_;refine H4 (by' := 48) 2 rfl rfl rfl rfl V7 Tryz.type183 rfl rfl rfl rfl rfl rfl (A0 rfl) (A0 rfl) rfl qz2 ?_;intro v42_2;refine R7 ?_;refine s8 n cc l v (n - 1) (x30.1) (l ++ [x14.2]) (v42_2) ?_ ?_ (Le.trans (B8 [1, 0, 0] rfl) (E5 1 qz73 ⟨rfl, C3 (fun z => some (AV.int z)) qz8, rfl, rfl, trivial⟩))
   ·exact ⟨by rw [H3, H8, Q1]; omega, by rw [H3, H8, Q1]; omega, fun o ho => (o5.1 ho).elim (hinv.2.2 o) fun e => by rw [Z5.1 e]; exact ok14.2⟩
   omega
  intro gh30;refine Ac7 rfl rfl (V1 rfl rfl rfl) (fun hq => by rw [gh30] at hq; cases hq) (fun _ => ?_);refine A1 rfl (CS6 rfl (A0 rfl) (Bf8 (x := AV.bool false) gh30)) ?_;refine R1 ?_;refine A3 ?_ ?_
  ·intro h32;refine AWP.le (B8 [0, 1, 0] rfl) ?_;refine O8 _ [(0, false), (1, false), (2, false), (3, true), (4, false)] D4 D4 rfl (S3 2) ?_;refine R3 ?_;refine T4 rfl rfl rfl (P5 [2] rfl Tryz.call15 rfl (S2 _ _ hcode _ _ qz8 qz8) (A2 (A0 rfl) (A2 L1 B0)) rfl) (fun a _ => qz4) ?_;intro x36 ok36;refine R9 ?_;refine H4 (by' := 48) 1 rfl rfl rfl rfl V7 Tryz.type183 rfl rfl rfl rfl rfl rfl (A0 rfl) (A0 rfl) rfl qz2 ?_;intro v42_3;refine R7 ?_;refine s8 n cc l v (n - 1) (x14.1) (l ++ [x14.2]) (v42_3) ?_ ?_ (Le.trans (B8 [0, 1, 0] rfl) (E5 1 qz73 ⟨rfl, C3 (fun z => some (AV.int z)) qz8, rfl, rfl, trivial⟩))
   ·exact ⟨by rw [H3, H8, Q1]; omega, by rw [H3, H8, Q1]; omega, fun o ho => (o5.1 ho).elim (hinv.2.2 o) fun e => by rw [Z5.1 e]; exact ok14.2⟩
   omega
  intro h32;refine R5 ?_;refine H4 (by' := 48) 2 rfl rfl rfl rfl V7 Tryz.type183 rfl rfl rfl rfl rfl rfl (A0 rfl) (A0 rfl) rfl qz2 ?_;intro v42_4;refine R7 ?_;refine s8 n cc l v (n - 1) (x14.1) (l ++ [x14.2]) (v42_4) ?_ ?_ (Le.trans (B8 [0, 0, 0] rfl) (E5 1 qz73 ⟨rfl, C3 (fun z => some (AV.int z)) qz8, rfl, rfl, trivial⟩))
  ·exact ⟨by rw [H3, H8, Q1]; omega, by rw [H3, H8, Q1]; omega, fun o ho => (o5.1 ho).elim (hinv.2.2 o) fun e => by rw [Z5.1 e]; exact ok14.2⟩
  omega
 intro h10;have k10 := B9 h10;refine R7 ?_
 (refine I4 [0, 0] ((cc, l, v)) ?_ rfl l9 O6; exact ⟨show cc.p ≤ _ by omega, ⟨show 1 ≤ l.length by omega, show l.length ≤ 4 by omega⟩, hinv.2.2⟩)
end Go.PQ
namespace Go.PQ
open Go.Proofs
open Go Go.AV Go.M
attribute [local irreducible] OpW OpA OpS AWP J6 L3 K7 OpE K2 H9 K6 Le Ev F7 M7 f8 Int.tmod Int.tdiv IntKind.wrap
theorem Cd7 (k : Int) : E1 211 [AV.int k] (AV.bool (Aa5 k)) := by
  refine B3 Tryz.func211 rfl Tryz.ntmps211 rfl ?_;refine R15 ?_;exact D6 rfl (A6 rfl qz9)
theorem Cl7 (k : Int) : E1 212 [AV.int k] (AV.bool (Aj1 k)) := by
  refine B3 Tryz.func212 rfl Tryz.ntmps212 rfl ?_;refine R15 ?_;exact D6 rfl (A6 rfl qz9)
theorem Cx0 (o : TOp) (hs : o.size ≤ 1048576) : E1 170 [AV.agg o.cs] (AV.bool (BF1 o)) := by
  have hs' := hs; unfold TOp.size at hs';refine B3 Tryz.func170 rfl Tryz.ntmps170 rfl ?_;refine R3 ?_;intro b1;refine R6 ?_;refine A1 rfl (A5 rfl Tryz.call39 rfl (Y8 _ _ _) AJ2) ?_;refine R3 ?_;refine L6 rfl (fun hc => A5 rfl Tryz.call91 rfl (An2 _ qz8) (A2 (A9 rfl hc) B0)) ?_;refine R4 ?_;refine L6 rfl (fun hc => A5 rfl Tryz.call93 rfl (BZ9 _ qz8) (A2 (A9 rfl hc) B0)) ?_;refine R4 ?_;refine L6 rfl (fun hc => A5 rfl Tryz.call211 rfl (Cd7 _) (A2 (A9 rfl hc) B0)) ?_;refine R3 ?_;refine s9 rfl rfl (BQ0 rfl rfl rfl) (fun hc => Ac0 rfl (A9 rfl hc) (S8 (l := []) rfl)) ?_;refine R5 ?_;refine L6 rfl (fun hc => A5 rfl Tryz.call39 rfl (Y8 _ _ _) (A2 (A9 rfl hc) AO2)) ?_;refine R4 ?_;refine L6 rfl (fun hc => A5 rfl Tryz.call212 rfl (Cl7 _) (A2 (A9 rfl hc) B0)) ?_;refine R9 ?_;exact D6 rfl (A6 rfl qz9)
theorem CE1 (c : TOp) (hs : c.size ≤ 1048576) : E1 169 [AV.agg c.cs] (AV.bool (!BF1 c)) := by
  refine B3 Tryz.func169 rfl Tryz.ntmps169 rfl ?_;refine R3 ?_;intro b1;refine R5 ?_;refine A1 rfl (A5 rfl Tryz.call170 rfl (Cx0 _ W1) (A2 (A0 rfl) B0)) ?_;refine R4 ?_;exact D6 rfl (A6 rfl qz9)
theorem CP9 (l : List TOp) (hs : C7 TOp.size l ≤ 1048576) : E1 143 [AV.list 4 (l.map TOp.cs)] (AV.bool (AE8 l)) := by
  have hm : ∀ x ∈ l, x.size ≤ 1048576 := fun x hx => L8 (Al3 hx) hs;refine B3 Tryz.func143 rfl Tryz.ntmps143 rfl ?_;refine R11 ?_;refine L6 rfl (fun hc => A5 rfl Tryz.call168 rfl (BW3 _ _ _ Ab8) (A2 (A9 rfl hc) (A2 (BB4 Tryz.call169 (fun c h => CE1 c h)) B0))) ?_;refine R5 ?_;exact D6 rfl (A6 rfl (by exact C3 AV.bool (by simp only [A7]; rfl)))
theorem Cl8 (n : Int) : E1 141 [AV.int n] (AV.bool (isTxn n)) := by
  refine B3 Tryz.func141 rfl Tryz.ntmps141 rfl ?_;refine R7 ?_;refine A1 rfl (A5 rfl Tryz.call39 rfl (Y8 _ _ _) AJ2) ?_;refine R3 ?_;exact D6 rfl (A6 rfl qz9)
theorem Cd8 (x : G2) (hs : x.Key.length ≤ 4611686018427387904) : E1 109 [AV.agg x.cs] (AV.bool (Ax1 x)) := by
  refine B3 Tryz.func109 rfl Tryz.ntmps109 rfl ?_;refine R3 ?_;intro b1;refine R6 ?_;refine A1 rfl (A5 rfl Tryz.call91 rfl (An2 _ qz8) (A2 (A0 rfl) B0)) ?_;refine R3 ?_;refine L6 rfl (fun hc => A5 rfl Tryz.call141 rfl (Cl8 _) (A2 (A9 rfl hc) B0)) ?_;refine R4 ?_;exact D6 rfl (A6 rfl qz9)
theorem CQ0 (x : G2) (hs : x.Key.length ≤ 4611686018427387904) : E1 96 [AV.agg x.cs] (AV.bool (Ax1 x)) := by
  refine B3 Tryz.func96 rfl Tryz.ntmps96 rfl ?_;refine R3 ?_;intro b1;refine R6 ?_;refine A1 rfl (A5 rfl Tryz.call94 rfl (AR2 _ qz8) (A2 (A0 rfl) B0)) ?_;refine R3 ?_;refine L6 rfl (fun hc => A5 rfl Tryz.call24 rfl (P3 _ _ _) (A2 (A9 rfl hc) AO2)) ?_;refine R4 ?_;exact D6 rfl (A6 rfl (by exact C3 AV.bool (by unfold Ax1 isTxn; rw [AA7])))
theorem Cd9 (x y : G2) : E1 112 [AV.agg x.cs, AV.agg y.cs] (AV.bool (Aj2 x y)) := by
  refine B3 Tryz.func112 rfl Tryz.ntmps112 rfl ?_;refine R3 ?_;intro b2;refine R1 ?_;intro b3;refine R27 ?_;exact D6 rfl (A6 rfl qz9)
theorem Bo9 (x y : G2) : E1 111 [AV.agg y.cs, AV.eptr x.cs] (AV.bool (Ay4 x y)) := by
  refine B3 Tryz.func111 rfl Tryz.ntmps111 rfl ?_;refine R3 ?_;intro b2;refine R6 ?_;refine A1 rfl (A5 rfl Tryz.call112 rfl (Cd9 _ _) F0) ?_;refine R17 ?_;exact D6 rfl (A6 rfl qz9)
theorem bool_naG : ∀ {a b : Bool}, (!a || b) = true → (a && !b) = false := by decide
theorem Bw0 (l : List G2) (hs : C7 G2.size l ≤ 4194304) : E1 65 [AV.list 3 (l.map G2.cs)] (AV.bool (AM9 l)) := by
 have hl : l.length ≤ 4194304 := L8 L9 hs;refine B3 Tryz.func65 rfl Tryz.ntmps65 rfl ?_;refine R12 ?_;refine F2 [(0, _), (5, _), (6, _)] _ (fun (i : Nat) => i ≤ l.length ∧ AG3 [] l = AG3 (l.take i) (l.drop i)) (fun i => []) (fun i => [(7, AV.int i)]) (fun i => l.length - i) (0) ?_ (G3 A8) ?_
 ·exact ⟨E2 _, rfl⟩
 intro i hinv;refine R5 ?_;refine A3 ?_ ?_
 ·intro h8;have k8 := C5 h8;have hlt : i < l.length := by omega
  obtain ⟨x, hx⟩ := B4 hlt;have hxs : x.Key.length ≤ 4194304 := L8 (U6 (f := G2.size) hx) hs;refine R6 ?_;refine A1 rfl (D3 rfl T0 i8 (A0 rfl) (A0 rfl) hx qz2) ?_;refine R2 ?_;intro b4;refine R6 ?_;refine A1 rfl (A5 rfl Tryz.call109 rfl (Cd8 _ qz8) (A2 (A0 rfl) B0)) ?_;refine R4 ?_;refine Q7 rfl (fun hc => AG9 rfl T0 i8 (A9 rfl hc) (A9 rfl hc) qz6 qz6) ?_;refine Q7 rfl (fun hc => BG6 rfl rfl J3) ?_;refine Q7 rfl (fun hc => l8 rfl Tryz.call110 rfl (BM8 _ _ _ Ab8) (U0 _) (P1 (evb (A9 rfl hc)) (P1 (AQ4 (Ar2 0 (A9 rfl hc) rfl) (Ac1 Tryz.call111 (fun y (_ : True) => Bo9 _ y))) m8))) ?_;refine R2 ?_;refine A3 ?_ ?_
  ·intro h21;have hbad : AG3 [] l = false := by rw [hinv.2, AY9 hx, show (Ax1 x && !((l.take i).any (Ay4 x))) = false from bool_naG h21]; rfl
   refine R5 ?_;exact D6 rfl (A6 rfl qz54)
  intro h21;refine R5 ?_;refine G4 i (i + 1) ?_ ?_ (S5 1 A8)
  ·exact ⟨by omega, by rw [hinv.2, AY9 hx]; cases ha : Ax1 x <;> simp_all⟩
  omega
 intro h8;have k8 := B9 h8;have hge : l.length ≤ i := by omega
 have hgf : AG3 [] l = true := by rw [hinv.2, k6 hge]; rfl
 refine R9 ?_;exact D6 rfl (A6 rfl qz54)
theorem CQ1 (l : List G2) (hs : C7 G2.size l ≤ 4194304) : E1 54 [AV.list 3 (l.map G2.cs)] (AV.bool (AM9 l)) := by
 have hl : l.length ≤ 4194304 := L8 L9 hs;refine B3 Tryz.func54 rfl Tryz.ntmps54 rfl ?_;refine R12 ?_;refine F2 [(0, _), (7, _), (8, _)] _ (fun (i : Nat) => i ≤ l.length ∧ AG3 [] l = AG3 (l.take i) (l.drop i)) (fun i => []) (fun i => [(9, AV.int i)]) (fun i => l.length - i) (0) ?_ (G3 A8) ?_
 ·exact ⟨E2 _, rfl⟩
 intro i hinv;have hinv0 := hinv; clear hinv;refine R5 ?_;refine A3 ?_ ?_
 ·intro h10;have k10 := C5 h10;have hlt : i < l.length := by omega
  obtain ⟨x, hx⟩ := B4 hlt;have hxs : x.Key.length ≤ 4194304 := L8 (U6 (f := G2.size) hx) hs;refine R6 ?_;refine A1 rfl (D3 rfl T0 i8 (A0 rfl) (A0 rfl) hx qz2) ?_;refine R2 ?_;intro b4;refine R7 ?_;refine A1 rfl (A5 rfl Tryz.call96 rfl (CQ0 _ qz8) (A2 (A0 rfl) B0)) ?_;refine R2 ?_;refine A3 ?_ ?_
  ·intro h16;have hbad : AG3 [] l = false := by rw [hinv0.2, AY9 hx]; simp_all
   refine R5 ?_;exact D6 rfl (A6 rfl qz54)
  intro h16;have hlk : Ax1 x = true := by simpa using h16
  refine R5 ?_;refine A1 rfl (AG9 rfl T0 i8 (A0 rfl) (A0 rfl) qz2 qz2) ?_;refine R4 ?_;refine F2 [(0, _), (3, _), (4, _), (7, _), (8, _), (9, _), (10, _), (11, _), (12, _), (13, _), (14, _), (15, _), (16, _), (17, _), (18, _), (19, _), (20, _)] _ (fun (j : Nat) => j ≤ i ∧ ((l.take i).take j).any (Ay4 x) = false) (fun j => []) (fun j => [(21, AV.int j)]) (fun j => i - j) (0) ?_ (G3 A8) ?_
  ·exact ⟨E2 _, rfl⟩
  intro j hinv;refine R5 ?_;refine A3 ?_ ?_
  ·intro h22;have k22 := C5 h22;have hlt2 : j < i := by (rw [F4] at k22; omega)
   obtain ⟨y, hy⟩ := B4 (show j < l.length by omega);have hy' : (l.take i)[j]? = some y := by rw [AA8 hlt2, hy]
   refine R5 ?_;refine A1 rfl (D3 rfl T0 i8 (A0 rfl) (A0 rfl) hy' qz2) ?_;refine R2 ?_;intro b6;refine R19 ?_;refine Q7 rfl (fun hc => A5 rfl Tryz.call97 rfl (BN7 _ _) (A2 (A9 rfl hc) (A2 (A9 rfl hc) B0))) ?_;refine R2 ?_;refine A3 ?_ ?_
   ·intro h41;have hq : Ay4 x y = true := by (unfold Ay4; rw [Bool.or_comm]; simpa using h41)
    have hbad : AG3 [] l = false := by rw [hinv0.2, AY9 hx, show (l.take i).any (Ay4 x) = true from List.any_eq_true.2 ⟨y, C2 hy', hq⟩]; simp
    refine R5 ?_;exact D6 rfl (A6 rfl qz54)
   intro h41;have hq : Ay4 x y = false := by (unfold Ay4; rw [Bool.or_comm]; simpa using h41)
   refine R5 ?_;refine G4 j (j + 1) ?_ ?_ (S5 1 A8)
   ·exact ⟨by omega, by rw [T5, hy', List.any_append, hinv.2]; simpa [Ay4] using hq⟩
   omega
  intro h22;have k22 := B9 h22;have hge2 : i ≤ j := by (rw [F4] at k22; omega)
  have hany : (l.take i).any (Ay4 x) = false := by have := hinv.2; rwa [P8 Ay7] at this
  refine R5 ?_;refine G4 i (i + 1) ?_ ?_ (S5 1 A8)
  ·exact ⟨by omega, by rw [hinv0.2, AY9 hx, hlk, hany]; rfl⟩
  omega
 intro h10;have k10 := B9 h10;have hge : l.length ≤ i := by omega
 have hgf : AG3 [] l = true := by rw [hinv0.2, k6 hge]; rfl
 refine R9 ?_;exact D6 rfl (A6 rfl qz54)
end Go.PQ
namespace Go.Proofs
open Go.Shelf
def Tryz.atoi_ren : Go.Shelf.Ren := ⟨fun | 172 => 124 | 244 => 148 | 245 => 149 | 247 => 173 | 279 => 174 | 280 => 175 | 281 => 176 | 282 => 177 | 287 => 213 | 316 => 214 | 171 => 125 | 205 => 215 | 321 => 264 | 322 => 265 | 243 => 150 | 246 => 178 | 283 => 216 | 284 => 217 | 285 => 218 | 286 => 219 | 129 => 267 | 317 => 266 | 318 => 268 | 319 => 269 | 320 => 270 | 337 => 300 | 338 => 301 | n => n, fun | 9 => 9 | 3 => 3 | 75 => 158 | 76 => 159 | 4 => 4 | 5 => 5 | 167 => 216 | 37 => 22 | 0 => 0 | 85 => 217 | 2 => 2 | 168 => 219 | 53 => 46 | 175 => 254 | 46 => 127 | 210 => 258 | 127 => 297 | 145 => 300 | 143 => 298 | 21 => 21 | 171 => 260 | 173 => 263 | 212 => 302 | 51 => 303 | 20 => 20 | 213 => 304 | 232 => 343 | 233 => 344 | 80 => 202 | n => n, fun | 15 => 0 | 16 => 1 | 17 => 2 | 18 => 4 | 19 => 5 | n => n⟩
theorem Tryz.atoi : Go.Proofs.LaysC.n172 Tryz.prog Tryz.atoi_ren := {
  mixed := by kernel_rfl
  f129 := Tryz.func267.trans (C3 some D4)
  f171 := Tryz.func125.trans (C3 some D4)
  f172 := Tryz.func124.trans (C3 some D4)
  f205 := Tryz.func215.trans (C3 some D4)
  f243 := Tryz.func150.trans (C3 some D4)
  f244 := Tryz.func148.trans (C3 some D4)
  f245 := Tryz.func149.trans (C3 some D4)
  f246 := Tryz.func178.trans (C3 some D4)
  f247 := Tryz.func173.trans (C3 some D4)
  f279 := Tryz.func174.trans (C3 some D4)
  f280 := Tryz.func175.trans (C3 some D4)
  f281 := Tryz.func176.trans (C3 some D4)
  f282 := Tryz.func177.trans (C3 some D4)
  f283 := Tryz.func216.trans (C3 some D4)
  f284 := Tryz.func217.trans (C3 some D4)
  f285 := Tryz.func218.trans (C3 some D4)
  f286 := Tryz.func219.trans (C3 some D4)
  f287 := Tryz.func213.trans (C3 some D4)
  f316 := Tryz.func214.trans (C3 some D4)
  f317 := Tryz.func266.trans (C3 some D4)
  f318 := Tryz.func268.trans (C3 some D4)
  f319 := Tryz.func269.trans (C3 some D4)
  f320 := Tryz.func270.trans (C3 some D4)
  f321 := Tryz.func264.trans (C3 some D4)
  f322 := Tryz.func265.trans (C3 some D4)
  f337 := Tryz.func300.trans (C3 some D4)
  f338 := Tryz.func301.trans (C3 some D4)
  t0 := Tryz.underlying0
  a0 := Tryz.isAgg0
  z0 := Tryz.sizeOf0
  v0 := Tryz.zeroValue0
  t2 := Tryz.underlying2
  a2 := Tryz.isAgg2
  z2 := Tryz.sizeOf2
  v2 := Tryz.zeroValue2
  t3 := o6
  a3 := Q8
  z3 := E7
  v3 := Tryz.zeroValue3
  t4 := m3
  a4 := AG0
  z4 := V0
  v4 := Tryz.zeroValue4
  t5 := AC2
  a5 := Tryz.isAgg5
  z5 := Tryz.sizeOf5
  v5 := Tryz.zeroValue5
  t9 := O5
  a9 := j4
  z9 := I2
  v9 := Tryz.zeroValue9
  t20 := Tryz.underlying20
  a20 := Tryz.isAgg20
  z20 := Tryz.sizeOf20
  v20 := Tryz.zeroValue20
  t21 := Tryz.underlying21
  a21 := Tryz.isAgg21
  z21 := Tryz.sizeOf21
  v21 := Tryz.zeroValue21
  t37 := q6
  a37 := Tryz.isAgg22
  z37 := Tryz.sizeOf22
  v37 := Tryz.zeroValue22
  t46 := Tryz.underlying127
  a46 := Tryz.isAgg127
  z46 := Tryz.sizeOf127
  v46 := Tryz.zeroValue127
  t51 := Tryz.underlying303
  a51 := Tryz.isAgg303
  z51 := Tryz.sizeOf303
  v51 := Tryz.zeroValue303
  t53 := AH7
  a53 := Tryz.isAgg46
  z53 := Tryz.sizeOf46
  v53 := Tryz.zeroValue46
  t75 := Tryz.underlying158
  a75 := Tryz.isAgg158
  z75 := Tryz.sizeOf158
  v75 := Tryz.zeroValue158
  t76 := Tryz.underlying159
  a76 := Tryz.isAgg159
  z76 := Tryz.sizeOf159
  v76 := Tryz.zeroValue159
  t85 := Tryz.underlying217
  a85 := Tryz.isAgg217
  z85 := Tryz.sizeOf217
  v85 := Tryz.zeroValue217
  t127 := Tryz.underlying297
  a127 := Tryz.isAgg297
  z127 := Tryz.sizeOf297
  v127 := Tryz.zeroValue297
  t143 := Tryz.underlying298
  a143 := Tryz.isAgg298
  z143 := Tryz.sizeOf298
  v143 := Tryz.zeroValue298
  t145 := Tryz.underlying300
  a145 := Tryz.isAgg300
  z145 := Tryz.sizeOf300
  v145 := Tryz.zeroValue300
  t167 := Tryz.underlying216
  a167 := Tryz.isAgg216
  z167 := Tryz.sizeOf216
  v167 := Tryz.zeroValue216
  t168 := Tryz.underlying219
  a168 := Tryz.isAgg219
  z168 := Tryz.sizeOf219
  v168 := Tryz.zeroValue219
  t171 := Tryz.underlying260
  a171 := Tryz.isAgg260
  z171 := Tryz.sizeOf260
  v171 := Tryz.zeroValue260
  t173 := Tryz.underlying263
  a173 := Tryz.isAgg263
  z173 := Tryz.sizeOf263
  v173 := Tryz.zeroValue263
  t175 := Tryz.underlying254
  a175 := Tryz.isAgg254
  z175 := Tryz.sizeOf254
  v175 := Tryz.zeroValue254
  t210 := Tryz.underlying258
  a210 := Tryz.isAgg258
  z210 := Tryz.sizeOf258
  v210 := Tryz.zeroValue258
  t212 := Tryz.underlying302
  a212 := Tryz.isAgg302
  z212 := Tryz.sizeOf302
  v212 := Tryz.zeroValue302
  t213 := Tryz.underlying304
  a213 := Tryz.isAgg304
  z213 := Tryz.sizeOf304
  t232 := Tryz.underlying343
  a232 := Tryz.isAgg343
  z232 := Tryz.sizeOf343
  v232 := Tryz.zeroValue343
  t233 := Tryz.underlying344
  a233 := Tryz.isAgg344
  z233 := Tryz.sizeOf344
  v233 := Tryz.zeroValue344
  g15 := by kernel_rfl
  g16 := by kernel_rfl
  g17 := by kernel_rfl
  g18 := by kernel_rfl
  g19 := by kernel_rfl
  t80 := Tryz.underlying202
  a80 := Tryz.isAgg202
  z80 := Tryz.sizeOf202
  v80 := Tryz.zeroValue202
  i0 := by kernel_rfl
  i2 := by kernel_rfl
  i3 := by kernel_rfl
  i4 := by kernel_rfl
  i5 := by kernel_rfl
  i9 := by kernel_rfl
  i20 := by kernel_rfl
  i21 := by kernel_rfl
  i37 := by kernel_rfl
  i46 := by kernel_rfl
  i51 := by kernel_rfl
  i53 := by kernel_rfl
  i75 := by kernel_rfl
  i76 := by kernel_rfl
  i80 := by kernel_rfl
  i85 := by kernel_rfl
  i127 := by kernel_rfl
  i143 := by kernel_rfl
  i145 := by kernel_rfl
  i167 := by kernel_rfl
  i168 := by kernel_rfl
  i171 := by kernel_rfl
  i173 := by kernel_rfl
  i175 := by kernel_rfl
  i210 := by kernel_rfl
  i212 := by kernel_rfl
  i232 := by kernel_rfl
  i233 := by kernel_rfl
  m15 := by kernel_rfl
  m16 := by kernel_rfl
  m17 := by kernel_rfl
  m18 := by kernel_rfl
  m19 := by kernel_rfl
  c0 := by kernel_rfl
  c2 := by kernel_rfl
  c3 := by kernel_rfl
  c4 := by kernel_rfl
  c5 := by kernel_rfl
  c9 := by kernel_rfl
  c20 := by kernel_rfl
  c21 := by kernel_rfl
  c37 := by kernel_rfl
  c46 := by kernel_rfl
  c51 := by kernel_rfl
  c53 := by kernel_rfl
  c75 := by kernel_rfl
  c76 := by kernel_rfl
  c80 := by kernel_rfl
  c85 := by kernel_rfl
  c127 := by kernel_rfl
  c143 := by kernel_rfl
  c145 := by kernel_rfl
  c167 := by kernel_rfl
  c168 := by kernel_rfl
  c171 := by kernel_rfl
  c173 := by kernel_rfl
  c175 := by kernel_rfl
  c210 := by kernel_rfl
  c212 := by kernel_rfl
  c213 := by kernel_rfl
  c232 := by kernel_rfl
  c233 := by kernel_rfl }
end Go.Proofs
namespace Go.PQ
open Go.Proofs
open Go Go.AV Go.M
attribute [local irreducible] OpW OpA OpS AWP J6 L3 K7 OpE K2 H9 K6 Le Ev F7 M7 Int.tmod Int.tdiv IntKind.wrap
def Av6 (w : World) : Prop := tabW w ∧ (∃ tp p, w.var? Tryz.prog "strconv.ErrSyntax" = some #[.iface tp p]) ∧ (∃ tp p, w.var? Tryz.prog "strconv.ErrRange" = some #[.iface tp p])
theorem Cx1 {W w' : World} (h : Av6 W) (hw : RLe (Ao5 W) w') : Av6 w' :=
  let ⟨h1, ⟨t3, p3, h3⟩, ⟨t4, p4, h4⟩⟩ := h
  ⟨DF6 h1 hw, ⟨t3, p3, CW3 h3 hw⟩, ⟨t4, p4, CW3 h4 hw⟩⟩
theorem DG0 (s : Str) (hs : s.length ≤ 1048576) : E1 124 [AV.wt Av6 (AV.str s)] (AV.tup [AV.int (AM4 s), AV.errB (AP8 s)]) :=
  CW2 fun R w v hr hx hT => by
    have hsz : (ByteArray.mk s.toArray).size = s.length := Ak9 s;obtain ⟨_, ⟨t3, p3, h3⟩, ⟨t4, p4, h4⟩⟩ := hT;rw [show v = Value.string ⟨s.toArray⟩ from hx];rcases ha : Lib.atoiAll s with n | _ | _
    · have e1 : AM4 s = n := by unfold AM4; rw [ha]
      have e2 : AP8 s = false := by unfold AP8; rw [ha]
      rw [e1, e2];refine (Any.strconv_Atoi_ok Tryz.atoi ⟨s.toArray⟩ (by rw [hsz]; omega) n ha w).mono ?_
      rintro e w' ⟨rfl, hw⟩
      exact ⟨_, rfl, ⟨_, rfl, Z7.cons rfl (Z7.cons ⟨fun _ => rfl, fun h => Am3⟩ (Z7.nil _))⟩, by (rcases hw with rfl | ⟨t, rfl⟩); exact Cs0 _; exact Ch2 _ _ _⟩
    · have e1 : AM4 s = 0 := by unfold AM4; rw [ha]
      have e2 : AP8 s = true := by unfold AP8; rw [ha]
      rw [e1, e2];refine (Any.strconv_Atoi_syntax_var Tryz.atoi ⟨s.toArray⟩ (by rw [hsz]; omega) ha t3 p3 w h3).mono ?_
      rintro e w' ⟨N, rfl, _, _, hb⟩
      exact ⟨_, rfl, ⟨_, rfl, Z7.cons rfl (Z7.cons ⟨fun h => Am3, fun _ => ⟨_, _, rfl⟩⟩ (Z7.nil _))⟩, hb⟩
    · have e1 : AM4 s = Lib.atoiSat s := by unfold AM4; rw [ha]
      have e2 : AP8 s = true := by unfold AP8; rw [ha]
      rw [e1, e2];refine (Any.strconv_Atoi_range_var Tryz.atoi ⟨s.toArray⟩ (by rw [hsz]; omega) ha t4 p4 w h4).mono ?_
      rintro e w' ⟨N, rfl, _, _, hb⟩
      exact ⟨_, rfl, ⟨_, rfl, Z7.cons rfl (Z7.cons ⟨fun h => Am3, fun _ => ⟨_, _, rfl⟩⟩ (Z7.nil _))⟩, hb⟩
theorem Ce0 (s : Str) (lo hi : Int) (hs : s.length ≤ 1048576) : E1 80 [AV.wt Av6 (AV.str s), AV.int lo, AV.int hi] (AV.tup [AV.int (AM5 s lo hi).1, AV.bool (AM5 s lo hi).2]) := by
 refine B3 Tryz.func80 rfl Tryz.ntmps80 rfl ?_;refine AWP.le (Br6 (t := 0) rfl) ?_;refine R8 ?_;refine A1 rfl (BM1 0 rfl rfl Tryz.call124 rfl (DG0 s hs) J3 Bq2) ?_;refine R10 ?_;refine A1 rfl (w_errneq rfl D4 (A0 rfl)) ?_;refine R4 ?_;refine Q7 rfl (fun hc => A5 rfl Tryz.call39 rfl (Y8 _ _ _) (A2 (A9 rfl hc) (A2 (A9 rfl hc) (A2 (A9 rfl hc) B0)))) ?_;refine R4 ?_;refine Q7 rfl (fun hc => BM1 0 rfl rfl Tryz.call125 rfl (DF8 (AM4 s) (DF1 s)) (A2 (A9 rfl hc) B0) Bq2) ?_;refine R4 ?_;refine A3 ?_ ?_
 ·intro h29;have he : AM5 s lo hi = (0, false) := D0 h29;rw [he];refine R6 ?_;exact f7 rfl F1 AD2
 intro h29;have he : AM5 s lo hi = (AM4 s, true) := C6 (by rw [h29]; decide);rw [he];refine R8 ?_;exact f7 rfl F1 AD2
end Go.PQ
namespace Go.PQ
open Go.Proofs
open Go Go.AV Go.M
attribute [local irreducible] OpW OpA OpS AWP J6 L3 K7 OpE K2 H9 K6 Le Ev F7 M7
end Go.PQ
namespace Go.PQ
open Go.Proofs
open Go Go.AV Go.M
attribute [local irreducible] OpW OpA OpS AWP J6 L3 K7 OpE K2 H9 K6 Le Ev F7 M7
end Go.PQ
namespace Go.PQ
open Go.Proofs
open Go Go.AV Go.M
attribute [local irreducible] OpW OpA OpS AWP J6 L3 K7 OpE K2 H9 K6 Le Ev F7 M7
theorem CQ2 (l ws : List A4) (hl : l.length ≤ 2097151) (hw : ws.length ≤ 2097152) : E1 31 [AV.list 3 (l.map A4.cs), AV.list 3 (ws.map A4.cs)] (AV.tup [AV.list 3 ((AV9 l ws).1.map A4.cs), AV.bool (AV9 l ws).2]) :=
  L5 (Cj3 l ws hl hw) fun x _ => AK9 (D5 (K0 (Z5.2 rfl) F6) (D5 I0 d5))
end Go.PQ
namespace Go.PQ
open Go.Proofs
open Go Go.AV Go.M
open Go.ChangeShapes Go.WideShapes Go.ChangeAt Go.RowKit
theorem star : "*" ++ "errors.errorString" = "*errors.errorString" := by decide
theorem errRow (u : TypeId) (h : Tryz.prog.typeName? 3 u = some "*errors.errorString") : u = 298 :=
  typeName_ptr_named (nm := "errors.errorString") (by rw [star]; kernel_rfl) D4 F1 u (by rw [star]; exact h)
theorem readW_of {W : World} (hL : laidMet Tryz.prog Go.Proofs.YthpipeokipgafaaGreatDoor.Rows.fnChangesRow.laid W) (hsh : W.ShapedOpen Tryz.prog) : Av6 W := by
  refine ⟨DF7 (laidMet.tail (laidMet.tail hL)), ?_, ?_⟩
  · have h5 := laidMet.tail (laidMet.tail (laidMet.tail (laidMet.tail hL)))
    obtain ⟨a, s, h, _⟩ := laid_sentinel (n := "strconv.ErrSyntax") (g := 0) (ti := 158) h5 D4 D4 Tryz.underlying158 errRow Tryz.underlying298 Tryz.underlying300 rfl rfl O5 D4 D4;exact ⟨_, _, h⟩
  · have h4 := laidMet.tail (laidMet.tail (laidMet.tail hL))
    obtain ⟨a, s, h, _⟩ := laid_sentinel (n := "strconv.ErrRange") (g := 1) (ti := 158) h4 D4 D4 Tryz.underlying158 errRow Tryz.underlying298 Tryz.underlying300 rfl rfl O5 D4 D4;exact ⟨_, _, h⟩
end Go.PQ