/- Texts of the claim, part 10. -/
import Derived.Test.YtmggojkfhodjbaaGreatDoorZHistories9
set_option linter.defProp false
set_option linter.unusedVariables false
set_option linter.unusedSimpArgs false
set_option maxRecDepth 100000
set_option maxHeartbeats 4000000
namespace Go.M
open Go.AV
def Br4 (l : List Str) : Bool := (l.all r5 && adj Op.bytesLess l) && within (l.length : Int) 1 8
theorem l16K_of {l : List Str} (h0 : 1 ≤ l.length ∧ l.length ≤ 8) (hk : ∀ k ∈ l, k ∈ AD0) (hs : AV6 l) : Br4 l = true := by
  unfold Br4 within
  rw [q8 qz8, q8 qz8, D8, D8];refine ⟨⟨Y6.2 fun k h => by rw [← AA2]; exact (AZ3 (hk k h)).1, ?_⟩, rfl⟩;have h1 := DZ3 (fun k h => (AZ3 (hk k h)).1) hs;unfold o8 at h1;simp only [D8] at h1;exact h1.2
def BT5 : D0 := (AU9 3).1
theorem newG3_wg : WG BT5 := by
  refine ⟨AN7.1 D4, rfl, fun h => ?_, fun r hr e he => ?_⟩
  · exact absurd h D4
  · have : ∀ r ∈ BT5.Reps, r.Log = [] := by decide
    rw [this r hr] at he; cases he
def Cw4 (n : Nat) (p : List TOp) : B5 := ⟨p, [], List.replicate n 0, -1, -1, false, 0, false, false, false⟩
def Ba7 (n : Nat) (k : Nat) (l : List Str) : B9 := ⟨Int.tmod (k : Int) (3 * (n : Int)), l, [], 0, -1, -1⟩
def Au3 (n : Nat) (ls : List (List Str)) (i : Nat) : List B9 := (List.range i).map fun k => Ba7 n k (ls.getD k [])
theorem Bq5 (n : Nat) (ls : List (List Str)) (i : Nat) : (Au3 n ls i).length = i := by unfold Au3; rw [A7, List.length_range]
theorem Cv0 {n : Nat} {ls : List (List Str)} {i : Nat} {l : List Str} (h : ls[i]? = some l) : (Au3 n ls ls.length)[i]? = some (Ba7 n i l) := by
  have hi := (G2.1 h).1;unfold Au3;rw [Z5, List.getElem?_range hi];show some (Ba7 n i (ls.getD i [])) = _
  rw [show ls.getD i [] = l by rw [List.getD_eq_getElem?_getD, h]; rfl]
def BC7 (cuts : List Str) (ps : List (List TOp)) (ls : List (List Str)) : D1 :=
  ⟨0, 0, List.replicate (3 * (cuts.length + 1)) ⟨0⟩, cuts, List.replicate (cuts.length + 1) BT5, List.replicate (cuts.length + 1) [], List.replicate (cuts.length + 1) 0, ps.map (Cw4 (cuts.length + 1)), Au3 (cuts.length + 1) ls ls.length⟩
structure NewOk (cuts : List Str) (ps : List (List TOp)) (ls : List (List Str)) : Prop where
  cuts : Ae3 cuts = true ∧ cuts.length ≤ 2 ∧ ∀ k ∈ cuts, k.length ≤ 12
  ps : ps.length ≤ 4 ∧ ∀ p ∈ ps, (AB9 p = true ∧ ∀ o ∈ p, o.Key ∈ AD0) ∧ 1 ≤ p.length
  ls : ls.length ≤ 4 ∧ ∀ l ∈ ls, (1 ≤ l.length ∧ l.length ≤ 8) ∧ AV6 l ∧ ∀ k ∈ l, k ∈ AD0
theorem NewOk.wi {cuts : List Str} {ps : List (List TOp)} {ls : List (List Str)} (h : NewOk cuts ps ls) : WI (BC7 cuts ps ls) where
  n := by have := h.cuts.2.1; unfold BC7; dsimp only; rw [Ah1]; omega
  clocks := ⟨by unfold BC7; dsimp only; rw [Ah1, Ah1], fun c hc => by rw [(Ao9.1 hc).2]; decide⟩
  cuts := ⟨by unfold BC7; dsimp only; rw [Ah1], h.cuts.2.2⟩
  locks := ⟨by unfold BC7; dsimp only; rw [Ah1, Ah1], fun l hl => by rw [(Ao9.1 hl).2]; exact ⟨E2 _, fun x hx => by cases hx⟩⟩
  promised := ⟨by unfold BC7; dsimp only; rw [Ah1, Ah1], fun p hp => by rw [(Ao9.1 hp).2]; decide⟩
  groups := fun g hg => by rw [(Ao9.1 hg).2]; exact newG3_wg
  txns := ⟨by unfold BC7; dsimp only; rw [A7]; have := h.ps.1; omega, fun t ht => by
    obtain ⟨p, hp, rfl⟩ := m1.1 ht;refine ⟨?_, (h.ps.2 p hp).1, ⟨E2 _, fun g hg => by cases hg⟩, ⟨show (-1 : Int) ≤ 0 by decide, .inl rfl⟩⟩;show (List.replicate (cuts.length + 1) (0 : Int)).length = (List.replicate (cuts.length + 1) BT5).length
    rw [Ah1, Ah1]⟩
  looks := ⟨by unfold BC7 Au3; dsimp only; rw [A7, List.length_range]; exact h.ls.1, fun l hl => by
    obtain ⟨k, hk, rfl⟩ := m1.1 hl;have hkl := List.mem_range.1 hk;obtain ⟨q, hq⟩ := B3 hkl;have hd : ls.getD k [] = q := by rw [List.getD_eq_getElem?_getD, hq]; rfl
    have hq9 := h.ls.2 q (C2 hq);show LkOk (List.replicate (cuts.length + 1) BT5).length _ (Ba7 (cuts.length + 1) k (ls.getD k []))
    rw [hd, Ah1];refine ⟨(show 0 ≤ Int.tmod (k : Int) (3 * ((cuts.length + 1 : Nat) : Int)) ∧ Int.tmod (k : Int) (3 * ((cuts.length + 1 : Nat) : Int)) < 3 * ((cuts.length + 1 : Nat) : Int) from ⟨Int.tmod_nonneg _ qz8, Int.tmod_lt_of_pos _ qz8⟩), ⟨hq9.1.2, fun x hx => by have := (AZ3 (hq9.2.2 x hx)).2; omega⟩, ⟨E2 _, fun g hg => by cases hg⟩, ⟨show (-1 : Int) ≤ 0 by decide, .inl rfl⟩, show (0 : Int) ≤ 0 ∧ (0 : Int) ≤ 1000000 by decide⟩⟩
  now := show (0 : Int) ≤ 0 ∧ (0 : Int) ≤ 100000 by decide
  count := show (0 : Int) ≤ 0 ∧ (0 : Int) ≤ 1000000 by decide
theorem newW_wq (cuts : List Str) (ps : List (List TOp)) (ls : List (List Str)) : ∀ v : D1, v.Txns = (BC7 cuts ps ls).Txns → v.Looks = (BC7 cuts ps ls).Looks → v.Count = 0 → WQ v := fun v h1 h2 h3 => ⟨fun t ht => by
    rw [h1] at ht;obtain ⟨p, hp, rfl⟩ := m1.1 ht;rw [h3]; exact (show (-1 : Int) < 0 by decide), fun l hl => by
    rw [h2] at hl;obtain ⟨k, hk, rfl⟩ := m1.1 hl;rw [h3]; exact (show (-1 : Int) < 0 by decide)⟩
theorem BO9 {α β : Type} {c : α → β} {n : Nat} {x : α} : (List.replicate n x).map c = List.replicate n (c x) := List.map_replicate ..
theorem nilRows {own : List Go.AV.Own} (n : Nat) : BE4 own (List.replicate n [AV.nils]) ((List.replicate n ([] : List H3)).map fun l => [AV.list 3 (l.map H3.cs)]) := by
  refine ⟨by simp, fun i e f h k => ?_⟩;rw [List.getElem?_replicate] at h;rw [Z5, List.getElem?_replicate] at k;split at h
  · rename_i hlt
    rw [D3 hlt] at k;injection h with h; injection k with k; subst h; subst k
    exact C1 Au8 Y2
  · cases h
structure WZ (w : D1) : Prop where
  groups : w.Groups.length ≤ 3 ∧ ∀ g ∈ w.Groups, g.size ≤ 1048576 ∧ AR7 Aq8 g
  cuts : w.Cuts.length ≤ 2 ∧ ∀ k ∈ w.Cuts, k.length ≤ 12
  clocks : w.Clocks.length ≤ 9
  locks : w.Locks.length ≤ 3 ∧ ∀ l ∈ w.Locks, C9 H3.size l ≤ 1048576
  promised : w.Promised.length ≤ 3
  txns : w.Txns.length ≤ 6 ∧ ∀ t ∈ w.Txns, C9 TOp.size t.Ops ≤ 1048576 ∧ C9 F9.size t.Got ≤ 1048576
  looks : w.Looks.length ≤ 4 ∧ ∀ l ∈ w.Looks, (∀ k ∈ l.Keys, k.length ≤ 12) ∧ C9 F9.size l.Got ≤ 1048576
  ends : (∀ t ∈ w.Txns, t.End = -1 ∨ t.Begin < t.End) ∧ ∀ l ∈ w.Looks, l.End = -1 ∨ l.Begin < l.End
theorem DC6 (l : List Str) : BC3 l = Br4 l := by
  unfold BC3 Br4 o8;rw [show (l.all q6) = l.all r5 from by congr 1; funext s; exact AA2 s, Bool.and_comm]
theorem Cj9 {l : List Str} (h : ∀ k ∈ l, k.length ≤ 12) : ∀ k ∈ l, k.length ≤ 4611686018427387904 := fun k hk => L4 (h k hk) D4
theorem DP8 {α : Type} {l : List α} {i : Nat} {x y : α} (hx : l[i]? = some x) (hy : y ∈ l.take (i + 1)) : y ∈ l.take i ∨ y = x := by
  rw [W1, hx] at hy;rcases u6.1 hy with h | h
  · exact .inl h
  · exact .inr Aj4
theorem BG1 {α : Type} {P : α → Prop} {l : List α} {i : Nat} {x : α} (hx : l[i]? = some x) (h : ∀ y ∈ l.take i, P y) (hp : P x) : ∀ y ∈ l.take (i + 1), P y := fun y hy => by
  rcases DP8 hx hy with h1 | rfl
  · exact h y h1
  · exact hp
theorem Am7 {α : Type} {P : α → Prop} {l : List α} {i : Nat} (hi : l.length ≤ i) (h : ∀ y ∈ l.take i, P y) : ∀ y ∈ l, P y := by rwa [T4 hi] at h
theorem Ar6 {l : List F9} {ks : List Str} (hl : l.length ≤ ks.length) : AU8 l ks = true ↔ ∀ (i : Nat) (g : F9) (k : Str), l[i]? = some g → ks[i]? = some k → g.Key = k := by
  unfold AU8;rw [Y6];constructor
  · intro h i g k hg hk
    have := h i (List.mem_range.2 (G2.1 hg).1);rw [hg, hk] at this;simpa using this
  · intro h i hi
    have hi := List.mem_range.1 hi;obtain ⟨g, hg⟩ := B3 hi;obtain ⟨k, hk⟩ := B3 (show i < ks.length by omega);rw [hg, hk];simpa using h i g k hg hk
def GWP (w : D1) : Prop := AN9 w = true ∧ ((∀ g ∈ w.Groups, j5 g = true ∧ g.Reps.length = 3) ∧ (∀ l ∈ w.Locks, AU7 l = true) ∧ ∀ p ∈ w.Promised, j6 p = true) ∧ ((j6 w.Now = true ∧ within w.Count 0 1000000 = true) ∧ w.Txns.length ≤ 6 ∧ w.Looks.length ≤ 4) ∧ (∀ c ∈ w.Clocks, AB6 c = true) ∧ (∀ t ∈ w.Txns, AM7 w t = true) ∧ ∀ l ∈ w.Looks, w8 w l = true
theorem Ar7 {w : D1} : o9 w = true ↔ GWP w := by
  unfold o9 GWP AB6;simp only [D8, Y6, H5, i8];constructor
  · rintro ⟨⟨⟨⟨⟨⟨⟨⟨⟨h1, h2⟩, h3⟩, h4⟩, h5⟩, h6⟩, h7, h8⟩, h9⟩, h10⟩, h11⟩
    exact ⟨h1, ⟨fun g hg => ⟨(h2 g hg).1, by have := (h2 g hg).2; omega⟩, h3, h4⟩, ⟨⟨h5, h6⟩, by omega, by omega⟩, h9, h10, h11⟩
  · rintro ⟨h1, ⟨h2, h3, h4⟩, ⟨⟨h5, h6⟩, h7, h8⟩, h9, h10, h11⟩
    exact ⟨⟨⟨⟨⟨⟨⟨⟨⟨h1, fun g hg => ⟨(h2 g hg).1, by have := (h2 g hg).2; omega⟩⟩, h3⟩, h4⟩, h5⟩, h6⟩, by omega, by omega⟩, h9⟩, h10⟩, h11⟩
theorem Bg7 {w : D1} (h : ¬ GWP w) : o9 w = false := by rw [← Bool.not_eq_true, Ar7]; exact h
theorem Bg8 {α : Type} {p q : α → Bool} (hq : ∀ x, q x = !p x) (l : List α) : (!l.any q) = l.all p := by
  rw [List.not_any_eq_all_not]; congr 1; funext x; rw [hq, Bool.not_not]
theorem most9 (n : Nat) (h : n ≤ 9) : 1 ≤ AA7 1 (n : Int) ∧ AA7 1 (n : Int) ≤ 9 := by unfold AA7; split <;> omega
theorem putS_pos (s : Str) (l : List Str) : 1 ≤ (AE7 l s).length := by
  cases l with
  | nil => simp [AE7]
  | cons x l => unfold AE7; split <;> (try split) <;> simp
def Cw5 (p : List TOp) : Prop := (AB9 p = true ∧ ∀ o ∈ p, o.Key ∈ AD0) ∧ 1 ≤ p.length
def CW3 (l : List Str) : Prop := (1 ≤ l.length ∧ l.length ≤ 8) ∧ AV6 l ∧ ∀ k ∈ l, k ∈ AD0
theorem wz_of {w : D1} (h : WI w) : WZ w where
  groups := ⟨h.n.2, fun g hg => ⟨by have := BB7 (h.groups g hg).good; omega, (h.groups g hg).keys⟩⟩
  cuts := ⟨by have := h.cuts.1; have := h.n; omega, h.cuts.2⟩
  clocks := by have := h.clocks.1; have := h.n; omega
  locks := ⟨by have := h.locks.1; have := h.n; omega, fun l hl => by
    have h1 := h.locks.2 l hl;have h2 := w6 (f := H3.size) (c := 64) (l := l) fun x hx => (h1.2 x hx).2;have h3 : l.length * (64 + 1) ≤ 60 * 65 := AA3 _ h1.1;omega⟩
  promised := by have := h.promised.1; have := h.n; omega
  txns := ⟨h.txns.1, fun t ht => by
    have h1 := h.txns.2 t ht;have h2 := w6 (f := TOp.size) (c := 36) (l := t.Ops) fun o ho => (AT5 h1.ops.1 o ho).size;have h3 : t.Ops.length ≤ 8 := by have h9 := h1.ops.1; unfold AB9 at h9; rw [D8, H5] at h9; have := h9.1; omega
    have h5 := w6 (f := F9.size) (c := 64) (l := t.Got) h1.got.2;have h6 : t.Got.length * (64 + 1) ≤ 8 * 65 := AA3 _ h1.got.1;exact ⟨by omega, by omega⟩⟩
  looks := ⟨h.looks.1, fun l hl => by
    have h1 := h.looks.2 l hl;have h5 := w6 (f := F9.size) (c := 64) (l := l.Got) h1.got.2;have h6 : l.Got.length * (64 + 1) ≤ 8 * 65 := AA3 _ (by have := h1.got.1; have := h1.keys.1; omega);exact ⟨h1.keys.2, by omega⟩⟩
  ends := ⟨fun t ht => (h.txns.2 t ht).span.2.imp id fun h => h.2.1, fun l hl => (h.looks.2 l hl).span.2.imp id fun h => h.2.1⟩
theorem Bq6 {w : D1} (z : WZ w) (n : Int) : WZ { w with Now := n } := ⟨z.groups, z.cuts, z.clocks, z.locks, z.promised, z.txns, z.looks, z.ends⟩
theorem BP0 {w : D1} (z : WZ w) (i : Nat) (c : U4) : WZ { w with Clocks := w.Clocks.set i c } := ⟨z.groups, z.cuts, by show (w.Clocks.set i c).length ≤ 9; rw [Z1]; exact z.clocks, z.locks, z.promised, z.txns, z.looks, z.ends⟩
theorem BZ8 {w : D1} (z : WZ w) {i : Nat} {g : D0} (hg : w.Groups[i]? = some g) (n : Int) : WZ { w with Groups := w.Groups.set i { g with Lead := n } } :=
  ⟨⟨by show (w.Groups.set i _).length ≤ 3; rw [Z1]; exact z.groups.1, AS2 z.groups.2 (z.groups.2 g (C2 hg))⟩, z.cuts, z.clocks, z.locks, z.promised, z.txns, z.looks, z.ends⟩
theorem BP1 {w : D1} (z : WZ w) : WZ { w with Locks := [] } := ⟨z.groups, z.cuts, z.clocks, ⟨E2 _, fun l hl => by cases hl⟩, z.promised, z.txns, z.looks, z.ends⟩
theorem CL9 {α : Type} [DecidableEq α] : ∀ {a b : List α}, a.Nodup → (∀ x ∈ a, x ∈ b) → a.length ≤ b.length
  | [], _, _, _ => E2 _
  | x :: a, b, hn, h => by
    have hn2 := List.nodup_cons.1 hn;have h1 : a.length ≤ (b.erase x).length := CL9 hn2.2 fun y hy => (List.mem_erase_of_ne (fun e => hn2.1 (by rw [← e]; exact hy))).2 (h y (S7 _ hy));have h2 := List.length_erase_of_mem (h x a8);have h3 : 0 < b.length := List.length_pos_of_mem (h x a8);rw [I9]; omega
structure At1 (l : List TOp) (got : List F9) : Prop where
  nd : (got.map F9.Key).Nodup
  sub : ∀ g ∈ got, g.Key ∈ l.map TOp.Key
  size : ∀ g ∈ got, g.size ≤ 200
theorem At1.len {l : List TOp} {got : List F9} (h : At1 l got) : got.length ≤ l.length := by
  have := CL9 h.nd (b := l.map TOp.Key) fun k hk => by obtain ⟨g, hg, e⟩ := m1.1 hk; rw [← e]; exact h.sub g hg
  simpa using this
theorem At1.nil (l : List TOp) : At1 l [] := ⟨List.nodup_nil, fun g h => Ab8, fun g h => Ab8⟩
theorem At1.snoc {l : List TOp} {got : List F9} {g : F9} (h : At1 l got) (hk : g.Key ∈ l.map TOp.Key) (hn : ∀ x ∈ got, x.Key ≠ g.Key) (hs : g.size ≤ 200) : At1 l (got ++ [g]) where
  nd := by
    rw [X8];refine List.nodup_append.2 ⟨h.nd, by simp, fun a ha b hb => ?_⟩;obtain ⟨x, hx, e⟩ := m1.1 ha;have : b = g.Key := by simpa using hb
    rw [← e, this]; exact hn x hx
  sub := fun x hx => by
    rcases u6.1 hx with hx | hx
    · exact h.sub x hx
    · rw [X9.1 hx]; exact hk
  size := fun x hx => by
    rcases u6.1 hx with hx | hx
    · exact h.size x hx
    · rw [X9.1 hx]; exact hs
theorem Cd5 {o : TOp} (h : OpD o) : Aj0 64 o := by
  have hg : AB9 [o] = true := by unfold AB9; rw [show ([o].any fun o => !Au2 o) = false by simp [h.1]]; rfl
  have h9 := AT5 hg o a8;exact ⟨L4 h9.size D4, h9.by', h9.key⟩
theorem DZ9 {rows : List A5} {k : Str} {n : Nat} (h : ∀ w ∈ rows, w.size ≤ n) (hk : k.length ≤ 64) : (BX1 rows k).size ≤ n + 64 ∧ (BX1 rows k).Key = k := by
  unfold BX1;split
  · rename_i w hw
    have := h w (Be9 hw).1;unfold A5.size at this;exact ⟨by unfold F9.size; dsimp only; omega, rfl⟩
  · exact ⟨by unfold F9.size; simp only [Q8]; omega, rfl⟩
def AN0 (h : List E0) : Prop := HistK h ∧ ∀ d ∈ h, d.size ≤ 5000
theorem DP9 : AN0 [] := ⟨fun d hd => (by cases hd), fun d hd => (by cases hd)⟩
theorem AN0.snoc {h : List E0} {d : E0} (H : AN0 h) (hk : ∀ w ∈ d.Writes, w.Key ∈ AD0) (hs : d.size ≤ 5000) : AN0 (h ++ [d]) := ⟨fun x hx => by
  rcases u6.1 hx with hx | hx
  · exact H.1 x hx
  · rw [X9.1 hx]; exact hk, fun x hx => by
  rcases u6.1 hx with hx | hx
  · exact H.2 x hx
  · rw [X9.1 hx]; exact hs⟩
theorem Ch6 {n : Nat} {c : Int} {t : B5} (h : Br2 n c t) {a b e tm : Int} : (E0.mk a b e true false tm t.Got (Q2 t.Ops t.Got).2.2).size ≤ 5000 := by
  have h2 := w6 (f := F9.size) (c := 64) (l := t.Got) h.got.2;have h3 : t.Got.length * (64 + 1) ≤ 8 * 65 := AA3 _ h.got.1;have hr := ran (got := t.Got) (n := 36) D4 (AT5 h.ops.1);have h4 := w6 (f := A5.size) (c := 36) (l := (Q2 t.Ops t.Got).2.2) hr.size;have h5 : t.Ops.length ≤ 8 := by have h9 := h.ops.1; unfold AB9 at h9; rw [D8, H5] at h9; have := h9.1; omega
  have h6 : (Q2 t.Ops t.Got).2.2.length * (36 + 1) ≤ 8 * 37 := AA3 _ (by have := hr.len; omega);show C9 F9.size t.Got + C9 A5.size (Q2 t.Ops t.Got).2.2 ≤ 5000
  omega
theorem CV1 {n : Nat} {c : Int} {t : B9} (h : LkOk n c t) {a b e tm : Int} : (E0.mk a b e true true tm t.Got []).size ≤ 5000 := by
  have h2 := w6 (f := F9.size) (c := 64) (l := t.Got) h.got.2;have h3 : t.Got.length * (64 + 1) ≤ 8 * 65 := AA3 _ (by have := h.got.1; have := h.keys.1; omega);show C9 F9.size t.Got + C9 A5.size [] ≤ 5000
  have : C9 A5.size [] = 0 := rfl;omega
theorem Av9 {own : List Go.AV.Own} {h : List E0} {row : List AV} {d : E0} (hr : AH5 own row d.cs) : BE4 own (h.map E0.cs ++ [row]) ((h ++ [d]).map E0.cs) := by
  rw [X8];refine ⟨by simp, fun i e f h1 h2 => ?_⟩;by_cases hi : i < (h.map E0.cs).length
  · rw [As0 hi] at h1 h2
    rw [h1] at h2; injection h2 with h2; subst h2; exact AI4
  · rw [Ao7 qz8] at h1 h2
    cases hk : i - (h.map E0.cs).length with
    | zero => rw [hk] at h1 h2; injection h1 with h1; injection h2 with h2; subst h1; subst h2; exact hr
    | succ m => rw [hk] at h1; cases h1
def CP4 (rows : List A5) : Prop := (adj T9 rows = true ∧ ∀ w ∈ rows, w.size ≤ 64) ∧ rows.length ≤ 1000000
theorem Da0 {rows ws : List A5} (h : CP4 rows) (hw : ∀ w ∈ ws, w.size ≤ 64) (hl : rows.length + ws.length ≤ 1000000) : CP4 (Br3 rows ws) := by
  refine ⟨⟨putD_adj h.1.1, fun w hm => ?_⟩, ?_⟩
  · unfold Br3 CN9 at hm
    rcases Cn3 (List.mem_filter.1 hm).1 with hm | hm
    · exact hw w hm
    · exact h.1.2 w hm
  · have h1 := CA8 (ws := ws) (l := rows)
    have h2 : (Br3 rows ws).length ≤ (BW9 rows ws).length := List.length_filter_le _ _;omega
theorem putD_len {rows ws : List A5} : (Br3 rows ws).length ≤ rows.length + ws.length := by
  have h1 := CA8 (ws := ws) (l := rows);have h2 : (Br3 rows ws).length ≤ (BW9 rows ws).length := List.length_filter_le _ _;omega
theorem Da1 {l : List TOp} {got : List F9} (hl : l.length ≤ 4) (ho : ∀ o ∈ l, OpD o) : (∀ w ∈ (Q2 l got).2.2, w.size ≤ 64) ∧ (Q2 l got).2.2.length ≤ 4 ∧ ∀ w ∈ (Q2 l got).2.2, w.Key ∈ AD0 := by
  have hr := ran (got := got) (n := 64) D4 fun o h => Cd5 (ho o h);exact ⟨hr.size, by have := hr.len; omega, Bg4 fun o h => (ho o h).2.1⟩
theorem DQ0 {l : List TOp} {got : List F9} (hl : l.length ≤ 4) (ha : At1 l got) {ws : List A5} (hw : (∀ w ∈ ws, w.size ≤ 64) ∧ ws.length ≤ 4) {a b e tm : Int} {y k : Bool} : (E0.mk a b e y k tm got ws).size ≤ 2000 := by
  have h1 := w6 (f := F9.size) (c := 200) (l := got) ha.size;have h2 : got.length * (200 + 1) ≤ 4 * 201 := AA3 _ (L4 ha.len hl);have h3 := w6 (f := A5.size) (c := 64) (l := ws) hw.1;show C9 F9.size got + C9 A5.size ws ≤ 2000
  omega
def BQ0 (h : List E0) : Prop := HistK h ∧ ∀ d ∈ h, d.size ≤ 2000
theorem BQ0.snoc {h : List E0} {d : E0} (H : BQ0 h) (hk : ∀ w ∈ d.Writes, w.Key ∈ AD0) (hs : d.size ≤ 2000) : BQ0 (h ++ [d]) := ⟨fun x hx => by
  rcases u6.1 hx with hx | hx
  · exact H.1 x hx
  · rw [X9.1 hx]; exact hk, fun x hx => by
  rcases u6.1 hx with hx | hx
  · exact H.2 x hx
  · rw [X9.1 hx]; exact hs⟩
theorem BQ0.big {h : List E0} (H : BQ0 h) : AN0 h := ⟨H.1, fun d hd => L4 (H.2 d hd) D4⟩
def yesLook (d : E0) : E0 := { d with Yes := d.Look }
def Cw6 (d : E0) (v : Str) : E0 := { d with Yes := d.Look, Got := match d.Got with | [] => [] | g :: r => ⟨g.Key, v, g.There⟩ :: r }
theorem Cd6 {h : List E0} (H : BQ0 h) {k : Nat} {d d' : E0} (hd : h[k]? = some d) (hw : d'.Writes = d.Writes) (hs : d'.size ≤ d.size + 64) : AN0 (h.set k d') := ⟨AS2 (P := fun d : E0 => ∀ w ∈ d.Writes, w.Key ∈ AD0) H.1 (by rw [hw]; exact H.1 d (C2 hd)), AS2 (P := fun d : E0 => d.size ≤ 5000) (fun x hx => L4 (H.2 x hx) D4) (by have := H.2 d (C2 hd); omega)⟩
theorem DC7 (d : E0) {v : Str} (h : v.length ≤ 64) : (Cw6 d v).size ≤ d.size + 64 := by
  obtain ⟨a, b, c, y, k, t, got, ws⟩ := d
  cases got with
  | nil => show C9 F9.size [] + C9 A5.size ws ≤ C9 F9.size [] + C9 A5.size ws + 64; omega
  | cons g r =>
    show C9 F9.size (⟨g.Key, v, g.There⟩ :: r) + C9 A5.size ws ≤ C9 F9.size (g :: r) + C9 A5.size ws + 64
    rw [X7, X7];have : F9.size ⟨g.Key, v, g.There⟩ ≤ g.size + 64 := by unfold F9.size; dsimp only; omega
    omega
def WsD (ws : List A5) : Prop := (∀ w ∈ ws, w.size ≤ 64) ∧ ws.length ≤ 4 ∧ ∀ w ∈ ws, w.Key ∈ AD0
theorem CV2 : WsD [] := ⟨fun w h => Ab8, E2 _, fun w h => Ab8⟩
end Go.M
namespace Go.PQ
open Go.Proofs Go.Proofs.Tryz
open Go Go.AV Go.M
attribute [local irreducible] OpW OpA OpS AWP K6 L8 K8 OpE K7 I7 L1 Le Ev G4 M7 j0 Int.tmod Int.tdiv IntKind.wrap T3
theorem Bq7 (l : List Str) (hs : ∀ k ∈ l, k.length ≤ 4611686018427387904) : E1 121 [strs l] (AV.bool (Br4 l)) := by
 refine B2 func121 rfl ntmps121 rfl ?_;refine m2 (t := 0) rfl fun hl => ?_;try simp only [A7] at hl
 refine R12 ?_;refine F8 [(0, _), (5, _), (6, _)] _ (fun (i : Nat) => i ≤ l.length ∧ (l.all r5 && adj Op.bytesLess l) = ((l.drop i).all r5 && adj Op.bytesLess (l.drop (i - 1)))) (fun i => []) (fun i => [(7, AV.int i)]) (fun i => l.length - i) (0) ?_ (H0 A4) ?_
 ·exact zq8
 intro i hinv;refine zK ?_ ?_
 ·intro h8 k8;have hlt : i < l.length := by omega
  obtain ⟨x, hx⟩ := B3 hlt;obtain ⟨y, hy⟩ := B3 (show i - 1 < l.length by omega);have hsx := hs x (C2 hx);refine zq165 ?_;refine AC2 rfl rfl (Z4 rfl rfl rfl) (fun hc => Ac0 rfl F0 K1 (A9 rfl hc) (A9 rfl hc) (by have := AD2 (BI6 hc); omega) qz112) ?_;refine zq133 ?_;refine zC ?_ ?_
  ·intro h27;have hfin : (l.all r5 && adj Op.bytesLess l) = false := by rw [hinv.2, J7 hx, AC0]; cases hg : r5 x with | false => simp | true => (simp only [hg, Bool.not_true, Bool.false_or, D8, H5, q7] at h27; rw [Al5 hx hy qz8 h27.2]; simp)
   refine R5 ?_;exact D5 rfl (A8 rfl qz152)
  intro h27;refine R5 ?_;refine G5 i (i + 1) ?_ ?_ (H0 A4)
  ·exact zq130
  omega
 intro h8 k8;have hge : l.length ≤ i := by omega
 refine R5 ?_;refine zq132 ?_;refine R3 ?_;exact D5 rfl (A8 rfl qz152)
theorem Am8 (cuts : List Str) (ps : List (List TOp)) (ls : List (List Str)) (h : NewOk cuts ps ls) : L7 181 [strs cuts, AV.list 1 (ps.map fun l => [AV.list 4 (l.map TOp.cs)]), AV.list 1 (ls.map fun l => [strs l])] [] (fun v : D1 => WI v ∧ WQ v) (fun _ => []) (fun v => AV.tup [AV.agg v.cs, AV.bool true]) := by
 have hcl := h.cuts.2.1;have hpl := h.ps.1;have hll := h.ls.1;have hwi := h.wi;obtain ⟨N, hN⟩ : ∃ N, cuts.length + 1 = N := ⟨_, rfl⟩;have hcb : ∀ k ∈ cuts, k.length ≤ 4611686018427387904 := fun k hk => L4 (h.cuts.2.2 k hk) D4;obtain ⟨P9, hP9⟩ : ∃ P9, ps.map (Cw4 N) = P9 := ⟨_, rfl⟩;obtain ⟨Q9, hQ9⟩ : ∃ Q9, Au3 N ls ls.length = Q9 := ⟨_, rfl⟩;have hP9l : P9.length = ps.length := by rw [← hP9, A7]
 have hQ9l : Q9.length = ls.length := by rw [← hQ9, Bq5]
 refine C6 func181 rfl ntmps181 rfl ?_;refine R3 ?_;intro b6;refine R6 ?_;refine zF rfl call63 (Bp9 cuts hcb) I4 ?_;refine zC ?_ ?_
 ·intro h39
  (exfalso; simp only [h.cuts.1, A7] at h39; simp at h39; omega)
 intro h39;refine R9 ?_;refine F8 [(0, _), (1, _), (2, _), (6, _), (41, _), (42, _)] _ (fun (i : Nat) => i ≤ ps.length) (fun i => []) (fun i => [(43, AV.int i)]) (fun i => ps.length - i) (0) ?_ (H0 A4) ?_
 ·exact E2 _
 intro i hinv;refine zK ?_ ?_
 ·intro h44 k44;have hlt : i < ps.length := (by simpa using h44);obtain ⟨p, hp⟩ := B3 hlt;have hpk := h.ps.2 p (C2 hp);refine R5 ?_;refine A1 rfl (zX hp) ?_;refine R6 ?_;refine zF rfl call120 (Bp8 p (by have h9 := w6 (f := TOp.size) (c := 36) (l := p) fun o ho => (AT5 hpk.1.1 o ho).size; have h8 : p.length ≤ 8 := (by have h7 := hpk.1.1; unfold AB9 at h7; rw [D8, H5] at h7; have := h7.1; omega); have h6 : p.length * (36 + 1) ≤ 8 * 37 := AA3 _ h8; omega)) (A2 (A0 rfl) B0) ?_;refine zC ?_ ?_
  ·intro h54
   (exfalso; rw [show Az7 p = true from by rw [← Be7]; exact hpk.1.1] at h54; simp only [A7] at h54; simp at h54; have h9 := hpk.2; rw [h54] at h9; simp at h9)
  intro h54;refine R5 ?_;refine G5 i (i + 1) ?_ ?_ (H0 A4)
  ·exact qz8
  omega
 intro h44 k44;refine R9 ?_;refine F8 [(0, _), (1, _), (2, _), (6, _), (57, _), (58, _)] _ (fun (j : Nat) => j ≤ ls.length) (fun j => []) (fun j => [(59, AV.int j)]) (fun j => ls.length - j) (0) ?_ (H0 A4) ?_
 ·exact E2 _
 intro j hinv;refine zK ?_ ?_
 ·intro h60 k60;have hlt2 : j < ls.length := (by simpa using h60);obtain ⟨l, hl⟩ := B3 hlt2;have hlk := h.ls.2 l (C2 hl);refine R5 ?_;refine A1 rfl (zX hl) ?_;refine R6 ?_;refine zF rfl call121 (Bq7 l (fun k hk => by have := (AZ3 (hlk.2.2 k hk)).2; omega)) I4 ?_;refine zC ?_ ?_
  ·intro h65
   (exfalso; rw [l16K_of hlk.1 hlk.2.2 hlk.2.1] at h65; cases h65)
  intro h65;refine R5 ?_;refine G5 j (j + 1) ?_ ?_ (H0 A4)
  ·exact qz8
  omega
 intro h60 k60;refine R5 ?_;refine A1 rfl (w_natc (a := ((cuts.map fun s => [AV.str s]).length : Int) + 1) N (BX2 rfl zA J4 CE3) CE3) ?_;refine R3 ?_;refine awp_cut4 [(1, _), (2, _), (6, _), (12, _)] A4 (fun (b82 : Nat) (cv : Value) (lv : Value) (pv : Value) => [.box b82 245 [AV.int 0, AV.int 0, AV.is cv, strs cuts, AV.nils, AV.is lv, AV.is pv, AV.nils, AV.nils], .box b6 32 (List.map u7 (Value.agg #[Value.int IntKind.i64 0, Value.int IntKind.i64 0, E8, E8, E8, E8, E8, E8, E8]).cells.toList), .arr cv 101 1 (List.replicate (3 * N) [AV.int 0]), .arr lv 96 1 (List.replicate N [AV.nils]), .arr pv 3 1 (List.replicate N [AV.int 0])]) (fun (b82 : Nat) (cv : Value) (lv : Value) (pv : Value) => [(13, AV.ptr b82 0)]) ?_ ?_
 ·skip
  refine CA6 [] 11 (.pure 0 (.pure 1 (.pure 3 (.pure 4 (.pure 5 (.pure 7 (.e3 2 (.e2 6 (.e1 8 (.pure 9 (.pure 10 .nil))) 8 (.e1 6 (.pure 9 (.pure 10 .nil)))) 6 (.e2 2 (.e1 8 (.pure 9 (.pure 10 .nil))) 8 (.e1 2 (.pure 9 (.pure 10 .nil)))) 8 (.e2 2 (.e1 6 (.pure 9 (.pure 10 .nil))) 6 (.e1 2 (.pure 9 (.pure 10 .nil))))))))))) E6 E6 rfl CA5 ?_;refine R1 ?_;refine AZ1 rfl rfl rfl (fun ext => w_natc (a := 3 * ((N : Nat) : Int)) (3 * N) (Ap8 rfl J4 zA qz8) qz8) ?_;refine R1 ?_;refine AZ1 rfl rfl rfl (fun ext => zG rfl call170 (AF8 _ qz8) (A2 (A0 rfl) B0)) ?_;refine R2 ?_;refine bt3_e3 ?_ ?_ ?_
  ·refine J8 rfl rfl rfl (U8 1 (fun _ => rfl) (AE1 (by' := 8) rfl T1 type101 rfl rfl rfl rfl rfl rfl zA zA qz3 qz3)) (fun a _ => qz4) ?_;intro v73 hone_v73;have one_v73 := hone_v73.2;refine Cm2 ?_ ?_
   ·refine zq180 ?_;intro v77 hone_v77;have one_v77 := hone_v77.2;refine R1 ?_;refine zq184 ?_;intro v79 hone_v79;have one_v79 := hone_v79.2;refine zq1 ?_;intro b82;refine R2 ?_;exact ⟨b82, v73, v77, v79, Le.trans (B4 [0, 0, 0, 0, 0] rfl) (C7 0 B8 A4)⟩
   refine zq185 ?_;intro v79 hone_v79;have one_v79 := hone_v79.2;refine R1 ?_;refine zq178 ?_;intro v77 hone_v77;have one_v77 := hone_v77.2;refine zq1 ?_;intro b82;refine R2 ?_;exact ⟨b82, v73, v77, v79, Le.trans (B4 [0, 0, 0, 1, 0] rfl) (C7 0 B8 A4)⟩
  ·refine J8 rfl rfl rfl (U8 1 (fun _ => rfl) (AE1 (by' := 24) rfl U7 type96 rfl rfl rfl rfl rfl rfl zA zA qz3 qz3)) (fun a _ => qz4) ?_;intro v77 hone_v77;have one_v77 := hone_v77.2;refine Cm2 ?_ ?_
   ·refine zq179 ?_;intro v73 hone_v73;have one_v73 := hone_v73.2;refine R1 ?_;refine zq184 ?_;intro v79 hone_v79;have one_v79 := hone_v79.2;refine zq1 ?_;intro b82;refine R2 ?_;exact ⟨b82, v73, v77, v79, Le.trans (B4 [0, 0, 1, 0, 0] rfl) (C7 0 B8 A4)⟩
   refine zq185 ?_;intro v79 hone_v79;have one_v79 := hone_v79.2;refine zq175 ?_;intro v73 hone_v73;have one_v73 := hone_v73.2;refine zq1 ?_;intro b82;refine R2 ?_;exact ⟨b82, v73, v77, v79, Le.trans (B4 [0, 0, 2, 0, 0] rfl) (C7 0 B8 A4)⟩
  refine J8 rfl rfl rfl (U8 1 (fun _ => rfl) (AE1 (by' := 8) rfl H7 type3 rfl rfl rfl rfl rfl rfl zA zA qz3 qz3)) (fun a _ => qz4) ?_;intro v79 hone_v79;have one_v79 := hone_v79.2;refine Cm2 ?_ ?_
  ·refine zq179 ?_;intro v73 hone_v73;have one_v73 := hone_v73.2;refine R1 ?_;refine zq178 ?_;intro v77 hone_v77;have one_v77 := hone_v77.2;refine zq1 ?_;intro b82;refine R2 ?_;exact ⟨b82, v73, v77, v79, Le.trans (B4 [0, 0, 1, 1, 0] rfl) (C7 0 B8 A4)⟩
  refine zq180 ?_;intro v77 hone_v77;have one_v77 := hone_v77.2;refine zq175 ?_;intro v73 hone_v73;have one_v73 := hone_v73.2;refine zq1 ?_;intro b82;refine R2 ?_;exact ⟨b82, v73, v77, v79, Le.trans (B4 [0, 0, 2, 1, 0] rfl) (C7 0 B8 A4)⟩
 intro b82 cv lv pv;refine R2 ?_;refine AWP.le (AV3 5 3 (.arr lv 96 1 ((List.replicate N ([] : List H3)).map fun l => [AV.list 3 (l.map H3.cs)])) rfl (⟨rfl, rfl, rfl, nilRows N⟩) N7) ?_;refine R4 ?_;refine l9 93 3 ?_;refine zL [1, 0] ?_;refine J5 [(1, _), (2, _), (6, _), (12, _), (13, _)] _ (fun (i : Nat) (gv : Value) => i ≤ N) (fun i gv => [.box b82 245 [AV.int 0, AV.int 0, AV.is cv, strs cuts, AV.is gv, AV.is lv, AV.is pv, AV.nils, AV.nils], .arr gv 93 3 ((List.replicate i BT5).map D0.cs)]) (fun i gv => [(14, AV.int i)]) (fun i gv => N - i) (0) (E8) ?_ (K5 B8 A4) ?_
 ·exact E2 _
 intro i gv hinv;refine zK ?_ ?_
 ·intro h85 k85;refine R5 ?_;refine zF rfl call206 (Cg5 3) zS ?_;refine R4 ?_;intro b15;refine R3 ?_;refine G6 qz9 ?_;refine zL [1, 0] ?_;refine O5 _ [(0, false), (1, false), (2, false), (3, false), (4, false), (5, false), (6, false), (7, false), (8, true)] E6 E6 rfl (S1 2) ?_;refine R8 ?_;refine S8 rfl rfl rfl (L9 (by' := 40) 2 rfl H8 type93 rfl rfl rfl rfl rfl rfl zA zA rfl (by rw [A7, Ah1]; simp only [W7]; omega)) (fun a _ => qz4) ?_;intro v100_1 _;refine R4 ?_;refine O4 2 rfl fun one_v100_1 => ?_;refine M4 0 rfl rfl rfl zA zA (L2 one_v100_1) rfl sizeOf26 rfl ?_;refine zq95 ?_;refine R5 ?_;refine G0 i gv (i + 1) (v100_1) ?_ ?_ (Le.trans (B4 [1, 0, 0] rfl) (C7 1 (by (rw [List.replicate_succ', X8]; rfl)) A4))
  ·exact qz8
  omega
 intro h85 k85;rw [show i = N by omega];refine R9 ?_;refine l9 55 10 ?_;refine zL [1, 2, 2, 1, 1, 1, 0] ?_;refine V8 [(2, _), (6, _), (12, _), (13, _), (104, _), (105, _)] [] (fun (j : Nat) (tv : Value) (T : List (Value × Value)) => j ≤ ps.length ∧ T.length = j) (fun j tv T => [.box b82 245 [AV.int 0, AV.int 0, AV.is cv, strs cuts, AV.is gv, AV.is lv, AV.is pv, AV.is tv, AV.nils], .box b6 32 (List.map u7 (Value.agg #[Value.int IntKind.i64 0, Value.int IntKind.i64 0, E8, E8, E8, E8, E8, E8, E8]).cells.toList), .arr cv 101 1 (List.replicate (3 * N) [AV.int 0]), .arr gv 93 3 ((List.replicate N BT5).map D0.cs), .arr lv 96 1 ((List.replicate N ([] : List H3)).map fun l => [AV.list 3 (l.map H3.cs)]), .arr pv 3 1 (List.replicate N [AV.int 0]), .arr tv 55 10 (J9 B5.ocs (P9.take j) T)] ++ (nin B5.ow (P9.take j) T)) (fun j tv T => [(106, AV.int j)]) (fun j tv T => ps.length - j) (0) (E8) ([]) ?_ (K5 B8 A4) ?_
 ·exact zq8
 intro j tv T hinv;refine G6 (S0 _) ?_;refine zK ?_ ?_
 ·intro h107 k107;have hlt : j < ps.length := (by simpa using h107);obtain ⟨p, hp⟩ := B3 hlt;have ht : P9[j]? = some (Cw4 N p) := (by rw [← hP9, Z5, hp]; rfl);have hpk := h.ps.2 p (C2 hp);have hp8 : p.length ≤ 8 := (by have h9 := hpk.1.1; unfold AB9 at h9; rw [D8, H5] at h9; have := h9.1; omega);refine R5 ?_;refine A1 rfl (zX hp) ?_;refine R3 ?_;refine zL [0] ?_;refine V9 _ 14 (.pure 0 (.pure 1 (.pure 2 (.pure 3 (.pure 4 (.pure 5 (.pure 7 (.pure 9 (.e2 6 (.e2 8 (.e1 10 (.pure 11 (.pure 12 (.e1 13 .nil)))) 10 (.e1 8 (.pure 11 (.pure 12 (.e1 13 .nil))))) 10 (.e1 6 (.e1 8 (.pure 11 (.pure 12 (.e1 13 .nil)))))))))))))) E6 E6 rfl (S1 1) ?_;refine R8 ?_;refine AP4 ?_ ?_
  ·refine J8 rfl rfl rfl (AC5 7 <| AA1 rfl U6 Y7) (fun a _ => qz4) ?_;intro v116 _;refine AP4 ?_ ?_
   ·refine zq103 ?_;intro v118_2 _;refine R1 ?_;refine zq167 ?_;intro v120 hone_v120;have one_v120 := hone_v120.2;refine zq12 ?_;intro v123_3 _;refine R4 ?_;refine O4 6 rfl fun one_v123_3 => ?_;refine M4 0 rfl rfl rfl zA zA (L2 one_v123_3) rfl Ad5 rfl ?_;refine zq6 ?_;refine R4 ?_;refine P6 j tv T (j + 1) (v123_3) (T ++ [(E8, v120)]) ?_ ?_ (Le.trans (B4 [0, 0, 0, 0, 0, 0, 0] rfl) (K5 (Eq.trans qz137 (S0 _).symm) A4))
    ·exact ⟨by omega, by rw [G3, hinv.2]; rfl⟩
    omega
   refine J8 rfl rfl rfl (U8 8 (fun _ => rfl) (AC5 8 <| AE1 (by' := 8) rfl H7 type3 rfl rfl rfl rfl rfl rfl zA zA qz3 qz3)) (fun a _ => qz4) ?_;intro v120 hone_v120;have one_v120 := hone_v120.2;refine R1 ?_;refine zq103 ?_;intro v118_4 _;refine zq12 ?_;intro v123_5 _;refine R4 ?_;refine O4 6 rfl fun one_v123_5 => ?_;refine M4 0 rfl rfl rfl zA zA (L2 one_v123_5) rfl Ad5 rfl ?_;refine zq6 ?_;refine R4 ?_;refine P6 j tv T (j + 1) (v123_5) (T ++ [(E8, v120)]) ?_ ?_ (Le.trans (B4 [0, 0, 0, 0, 0, 0, 0] rfl) (K5 (Eq.trans qz137 (S0 _).symm) A4))
   ·exact ⟨by omega, by rw [G3, hinv.2]; rfl⟩
   omega
  refine zq167 ?_;intro v120 hone_v120;have one_v120 := hone_v120.2;refine R1 ?_;refine J8 rfl rfl rfl (AC5 8 <| AA1 rfl U6 Y7) (fun a _ => qz4) ?_;intro v116 _;refine R1 ?_;refine J8 rfl rfl rfl (AZ2 [8] (fun _ => rfl) (fun _ => K3 (C2 (i := 0) rfl) F6) (fun _ => N7) (L9 (by' := 48) 8 rfl U6 type112 rfl rfl rfl rfl rfl rfl zA zA rfl qz3)) (fun a _ => qz4) ?_;intro v118_6 _;refine zq12 ?_;intro v123_7 _;refine R4 ?_;refine O4 6 rfl fun one_v123_7 => ?_;refine M4 0 rfl rfl rfl zA zA (L2 one_v123_7) rfl Ad5 rfl ?_;refine zq6 ?_;refine R4 ?_;refine P6 j tv T (j + 1) (v123_7) (T ++ [(E8, v120)]) ?_ ?_ (Le.trans (B4 [0, 0, 0, 0, 0, 0, 0] rfl) (K5 (Eq.trans qz137 (S0 _).symm) A4))
  ·exact ⟨by omega, by rw [G3, hinv.2]; rfl⟩
  omega
 intro h107 k107;have hxT : T.length = ps.length := (by have h9 : ps.length ≤ j := (by simpa using h107); omega);rw [show P9.take j = P9 from T4 qz8];refine R9 ?_;refine l9 73 6 ?_;refine zL [1, 1, 1, 1, 1, 1, 1, 0] ?_;refine V8 [(6, _), (12, _), (13, _), (128, _), (129, _)] [] (fun (m : Nat) (kv : Value) (L : List Value) => m ≤ ls.length ∧ L.length = m) (fun m kv L => [.box b82 245 [AV.int 0, AV.int 0, AV.is cv, strs cuts, AV.is gv, AV.is lv, AV.is pv, AV.is tv, AV.is kv], .box b6 32 (List.map u7 (Value.agg #[Value.int IntKind.i64 0, Value.int IntKind.i64 0, E8, E8, E8, E8, E8, E8, E8]).cells.toList), .arr cv 101 1 (List.replicate (3 * N) [AV.int 0]), .arr gv 93 3 ((List.replicate N BT5).map D0.cs), .arr lv 96 1 ((List.replicate N ([] : List H3)).map fun l => [AV.list 3 (l.map H3.cs)]), .arr pv 3 1 (List.replicate N [AV.int 0]), .arr tv 55 10 (J9 B5.ocs P9 T), .arr kv 73 6 (J9 B9.ocs (Q9.take m) L)] ++ (nin B5.ow P9 T ++ nin B9.ow (Q9.take m) L)) (fun m kv L => [(130, AV.int m)]) (fun m kv L => ls.length - m) (0) (E8) ([]) ?_ (K5 (by (rw [show nin B9.ow (Q9.take 0) ([] : List Value) = [] from rfl, S0 (nin B5.ow P9 T), S0]; rfl)) A4) ?_
 ·exact zq8
 intro m kv L hinv;refine G6 (S0 _) ?_;refine zK ?_ ?_
 ·intro h131 k131;have hltm : m < ls.length := (by simpa using h131);obtain ⟨l, hl⟩ := B3 hltm;have hq9 : Q9[m]? = some (Ba7 N m l) := (by rw [← hQ9]; exact Cv0 hl);have hlk := h.ls.2 l (C2 hl);refine R6 ?_;refine A1 rfl (zX hl) ?_;refine R4 ?_;refine zL [0] ?_;refine O5 _ [(0, false), (1, false), (2, false), (3, false), (4, false), (5, false), (6, false), (7, false), (8, false), (9, false), (10, false), (11, false), (12, false), (13, false), (14, true)] E6 E6 rfl (S1 1) ?_;refine R8 ?_;refine P7 rfl rfl rfl (fun ext => Ap8 rfl J4 zA qz3) ?_;refine P7 rfl rfl rfl (fun ext => Bc3 rfl zA zA qz3) ?_;refine R1 ?_;refine P7 rfl rfl rfl (fun ext => zG rfl call170 (AF8 _ qz8) (A2 (A0 rfl) B0)) ?_;refine R2 ?_;refine S8 rfl rfl rfl (L9 (by' := 80) 7 rfl r6 type73 rfl rfl rfl rfl rfl rfl zA zA rfl Bb5) (fun a _ => qz4) ?_;intro v149_8 _;refine R4 ?_;refine O4 7 rfl fun one_v149_8 => ?_;refine M4 0 rfl rfl rfl zA zA (L2 one_v149_8) rfl sizeOf30 rfl ?_;refine zq95 ?_;refine l9 71 3 ?_;refine zL [1, 1, 1, 1, 1, 1, 1, 1, 0] ?_;refine AWP.le (S6 8 (t := nin B5.ow P9 T ++ nin B9.ow (Q9.take (m + 1)) (L ++ [E8])) (CD1 (x := (E8)) hq9 hinv.2)) ?_;refine R4 ?_;refine P6 m kv L (m + 1) (v149_8) (L ++ [E8]) ?_ ?_ (Le.trans (B4 [0, 0, 0, 0, 0, 0, 0, 0] rfl) (K5 (Eq.trans (by (rw [← AY9 (ocs := B9.ocs) (x := (E8)) hq9 hinv.2]; rfl)) (S0 _).symm) A4))
  ·exact ⟨by omega, by rw [G3, hinv.2]; rfl⟩
  omega
 intro h131 k131;have hxL : L.length = ls.length := (by have h9 : ls.length ≤ m := (by simpa using h131); omega);rw [show Q9.take m = Q9 from T4 qz8];refine R7 ?_;refine zL [0, 1, 1, 1, 1, 1, 1, 0] ?_;refine J5 [(6, _), (12, _), (13, _)] [] (fun (g : Nat) (v : D1) => g ≤ N ∧ WI v ∧ (v.Groups.length = N ∧ v.Count = 0) ∧ v.Txns = P9 ∧ v.Looks = Q9) (fun g v => [.box b82 245 [AV.int v.Now, AV.int v.Count, AV.is cv, strs v.Cuts, AV.is gv, AV.is lv, AV.is pv, AV.is tv, AV.is kv], .arr cv 101 1 (v.Clocks.map U4.cs), .arr gv 93 3 (v.Groups.map D0.cs), .arr lv 96 1 (v.Locks.map fun l => [AV.list 3 (l.map H3.cs)]), .arr pv 3 1 (v.Promised.map fun n => [AV.int n]), .arr tv 55 10 (J9 B5.ocs v.Txns T), .arr kv 73 6 (J9 B9.ocs v.Looks L), .box b6 32 (List.map u7 (Value.agg #[Value.int IntKind.i64 0, Value.int IntKind.i64 0, E8, E8, E8, E8, E8, E8, E8]).cells.toList)] ++ (nwZ v T L)) (fun g v => [(21, AV.int g)]) (fun g v => N - g) (0) (BC7 cuts ps ls) ?_ (K5 (by (rw [S0]; unfold BC7; dsimp only; rw [hN, hP9, hQ9, BO9, BO9, BO9, BO9]; rfl)) A4) ?_
 ·exact ⟨E2 _, hwi, ⟨(by unfold BC7; dsimp only; rw [Ah1]; exact hN), rfl⟩, (by rw [← hP9, ← hN]; rfl), (by rw [← hQ9, ← hN]; rfl)⟩
 intro g v hinv;refine G6 (S0 _) ?_;refine zK ?_ ?_
 ·intro h156 k156;refine R6 ?_;refine A1 rfl (Ap8 rfl J4 zA qz3) ?_;refine L3 [0, 0, 0, 0, 0, 0, 0] 1 7 (nwZ v T L) (fun zz => nwZ zz.1 T L) rfl rfl rfl rfl call207 rfl rfl (Cc4 b82 v ⟨cv, gv, lv, pv, tv, kv⟩ T L (3 * (g : Int)) hinv.2.1 (by rw [hinv.2.2.1.1]; omega)) F4 (fun a => N3) ?_;intro x162 ok162;refine R6 ?_;refine G0 g v (g + 1) (x162.1) ?_ ?_ (K5 (Eq.trans B8 (S0 _).symm) A4)
  ·exact ⟨by omega, ok162.1, ⟨ok162.2.1.groups.trans hinv.2.2.1.1, ok162.2.1.count.trans hinv.2.2.1.2⟩, ok162.2.2.1.trans hinv.2.2.2.1, ok162.2.2.2.trans hinv.2.2.2.2⟩
  omega
 intro h156 k156;refine R2 ?_;refine zL [0, 6, 0, 0, 0, 0, 0, 0] ?_;refine AWP.le (AV3 2 0 (.box b82 245 v.cs) rfl (⟨rfl, rfl, Bg6 (w := v) (X := ⟨cv, gv, lv, pv, tv, kv⟩) (T := T) (L := L) (by rw [hinv.2.2.2.1, hxT, ← hP9, A7]) (by rw [hinv.2.2.2.2, hxL, ← hQ9, Bq5]) (fun _ ho => ho)⟩) N7) ?_;refine R5 ?_;refine zF rfl call184 (BZ7 v hinv.2.1) I4 ?_;refine R4 ?_;exact I5 [] (v) (⟨hinv.2.1, newW_wq cuts ps ls v (by rw [hinv.2.2.2.1, ← hP9, ← hN]; rfl) (by rw [hinv.2.2.2.2, ← hQ9, ← hN]; rfl) hinv.2.2.1.2⟩) rfl B8 (j9 rfl D4 (I1 (F5 (ys := _) 1 rfl rfl S9 M3 rfl) Z9))
theorem Ar8 (w : D1) (n : Int) : E1 102 [AV.agg w.cs, AV.int n] (AV.bool (within n (-1) w.Count)) := by
  refine B2 func102 rfl ntmps102 rfl ?_;refine R3 ?_;intro b2;refine R7 ?_;refine zF rfl call45 (Z2 _ _ _) Aw2 ?_;exact zq136
theorem DC8 (w : D1) (n : Int) (hl : w.Clocks.length ≤ 9) : E1 104 [AV.agg w.cs, AV.int n] (AV.bool (within n 0 ((w.Clocks.length : Int) - 1))) := by
  refine B2 func104 rfl ntmps104 rfl ?_;refine R3 ?_;intro b2;refine R9 ?_;refine zF rfl call45 (Z2 _ _ _) Aw2 ?_;refine R3 ?_;exact D5 rfl (A8 rfl (by exact E5 AV.bool (by rw [A7])))
theorem CV3 (l : List TOp) (hs : C9 TOp.size l ≤ 1048576) : E1 99 [AV.list 4 (l.map TOp.cs)] (AV.bool (AB9 l && decide (0 < (l.length : Int)))) := by
  refine B2 func99 rfl ntmps99 rfl ?_;refine R11 ?_;refine J6 rfl (fun hc => zG rfl call150 (Ch0 _ W5) (A2 (A9 rfl hc) B0)) ?_;refine R4 ?_;exact D5 rfl (A8 rfl (by exact E5 AV.bool (by rw [A7, Bool.and_comm])))
theorem CD3 (l : List Str) (hs : ∀ k ∈ l, k.length ≤ 12) : E1 105 [strs l] (AV.bool (BC3 l)) := by
  have hk := Cj9 hs;refine B2 func105 rfl ntmps105 rfl ?_;refine R8 ?_;refine zF rfl call45 (Z2 _ _ _) AR2 ?_;refine R2 ?_;refine J6 rfl (fun hc => zG rfl call87 (Ad0 _ (by first | assumption | exact CI7 AK2)) (A2 (A9 rfl hc) B0)) ?_;refine R4 ?_;exact D5 rfl (A8 rfl (by exact E5 AV.bool (by unfold BC3; rw [A7])))
namespace tw7n2
def tw7x0 := @Tryz.func101
def tw7x1 := @Tryz.ntmps101
def tw7x2 := @R4
end tw7n2
open tw7n2 in
theorem CD4 (n : Int) : E1 101 [AV.int n] (AV.bool (!within n 0 200)) := CT9
theorem CM0 (w : D1) (t : B5) (ho : C9 TOp.size t.Ops ≤ 1048576) (hg : C9 F9.size t.Got ≤ 1048576) : E1 51 [AV.agg w.cs, AV.agg t.cs] (AV.bool (AM7 w t)) := by
  have hg4 : C9 F9.size t.Got ≤ 4194304 := L4 hg D4;refine B2 Tryz.func51 rfl Tryz.ntmps51 rfl ?_;refine R3 ?_;intro b2;refine R1 ?_;intro b3;refine R6 ?_;refine zF rfl Tryz.call99 (CV3 _ AK2) (A2 (A0 rfl) B0) ?_;refine R3 ?_;refine J6 rfl (fun hc => zG rfl Tryz.call79 (BW1 _ W5) (A2 (A9 rfl hc) B0)) ?_;refine R13 ?_;refine J6 rfl (fun hc => zG rfl Tryz.call100 (Bf7 _ _ _ Aw1) (A2 (A9 rfl hc) (A2 (BX3 Tryz.call101 (fun n (_ : True) => CD4 n)) B0))) ?_;refine R6 ?_;refine zq139 ?_;refine R5 ?_;refine zq139 ?_;refine R4 ?_;refine J6 rfl (fun hc => zG rfl Tryz.call44 (Aq4 _) zS) ?_;refine R4 ?_;exact D5 rfl (A8 rfl (by exact E5 AV.bool (by unfold AM7; rw [Bg8 (p := fun n => within n 0 200) (fun _ => rfl), A7, A7])))
theorem DC9 (w : D1) (t : B5) (ho : C9 TOp.size t.Ops ≤ 1048576) (hg : C9 F9.size t.Got ≤ 1048576) : E1 68 [AV.agg w.cs, AV.agg t.cs] (AV.bool (AM7 w t)) := by
  have hg4 : C9 F9.size t.Got ≤ 4194304 := L4 hg D4;refine B2 Tryz.func68 rfl Tryz.ntmps68 rfl ?_;refine R3 ?_;intro b2;refine R1 ?_;intro b3;refine R6 ?_;refine zF rfl Tryz.call120 (Bp8 t.Ops ho) I4 ?_;refine R9 ?_;refine J6 rfl (fun hc => zG rfl Tryz.call83 (BW2 _ W5) (A2 (A9 rfl hc) B0)) ?_;refine R13 ?_;refine J6 rfl (fun hc => zG rfl Tryz.call64 (CJ9 _ _ _) (A2 (A9 rfl hc) AP3)) ?_;refine zq116 ?_;refine zq116 ?_;refine R4 ?_;refine J6 rfl (fun hc => zG rfl Tryz.call70 (Ai5 _) zS) ?_;refine R4 ?_;exact D5 rfl (A8 rfl (by exact E5 AV.bool (by unfold AM7; rw [Be7, A7, A7, A7])))
theorem CD5 (w : D1) (l : B9) (hc : w.Clocks.length ≤ 9) (hk : ∀ k ∈ l.Keys, k.length ≤ 12) (hg : C9 F9.size l.Got ≤ 1048576) : E1 54 [AV.agg w.cs, AV.agg l.cs] (AV.bool (w8 w l)) := by
 have hg4 : C9 F9.size l.Got ≤ 4194304 := L4 hg D4;have hgn := O2 (f := F9.size) (l := l.Got);refine B2 Tryz.func54 rfl Tryz.ntmps54 rfl ?_;refine R3 ?_;intro b2;refine R1 ?_;intro b3;refine R8 ?_;refine zF rfl Tryz.call104 (DC8 _ _ AK2) (A2 (A0 rfl) (A2 (A0 rfl) B0)) ?_;refine R4 ?_;refine T6 rfl (fun hc => zG rfl Tryz.call105 (CD3 _ AK2) (A2 (A9 rfl hc) B0)) ?_;refine R14 ?_;refine T6 rfl (fun hc => zG rfl Tryz.call79 (BW1 _ W5) (A2 (A9 rfl hc) B0)) ?_;refine zC ?_ ?_
 ·intro h32;have he : w8 w l = false := (by unfold w8; simp only [A7] at h32; cases h1 : within l.Node 0 ((w.Clocks.length : Int) - 1) <;> cases h2 : BC3 l.Keys <;> cases h3 : AC4 l.Got <;> by_cases h4 : (l.Got.length : Int) ≤ (l.Keys.length : Int) <;> simp_all <;> omega);rw [he];exact zq63
 intro h32;have hle : l.Got.length ≤ l.Keys.length := (by simp only [A7, AE4, AH1] at h32; have h9 := h32.1.2; omega);have he : w8 w l = (((AU8 l.Got l.Keys && j6 l.Time) && within l.Begin (-1) w.Count) && within l.End (-1) w.Count) := (by unfold w8; simp only [A7, AE4, AJ5] at h32; rw [h32.1.1.1, h32.1.1.2, h32.2, q8 (show (l.Got.length : Int) ≤ (l.Keys.length : Int) by omega)]; rfl);rw [he];refine R10 ?_;refine F8 [(2, _), (3, _), (34, _), (35, _)] _ (fun (i : Nat) => i ≤ l.Got.length ∧ ∀ (j : Nat) (g : F9) (k : Str), j < i → l.Got[j]? = some g → l.Keys[j]? = some k → g.Key = k) (fun i => []) (fun i => [(36, AV.int i)]) (fun i => l.Got.length - i) (0) ?_ (H0 A4) ?_
 ·exact ⟨E2 _, fun j _ _ h => absurd h (Nat.not_lt_zero j)⟩
 intro i hinv;refine zK ?_ ?_
 ·intro h37 k37;have hlt : i < l.Got.length := (by simpa using h37);obtain ⟨x, hx⟩ := B3 hlt;obtain ⟨y, hy⟩ := B3 (show i < l.Keys.length by omega);refine zq23 ?_;intro b6;refine R10 ?_;refine B7 rfl rfl (zX hy) ?_;refine zC ?_ ?_
  ·intro h48;have hm : AU8 l.Got l.Keys = false := (by rw [← Bool.not_eq_true, Ar6 hle]; intro h9; have h8 := h9 i x y hx hy; simp [h8] at h48);rw [hm];exact zq63
  intro h48;refine R5 ?_;refine G5 i (i + 1) ?_ ?_ (S4 1 A4)
  ·exact ⟨by omega, fun j g2 k2 hj e1 e2 => by rcases Nat.lt_or_eq_of_le (Nat.le_of_lt_succ hj) with h9 | rfl; exact hinv.2 j g2 k2 h9 e1 e2; rw [hx] at e1; rw [hy] at e2; injection e1 with e1; injection e2 with e2; subst e1; subst e2; simpa using h48⟩
  omega
 intro h37 k37;have hm : AU8 l.Got l.Keys = true := (Ar6 hle).2 (fun j g k e1 e2 => hinv.2 j g k (by have h9 := (G2.1 e1).1; omega) e1 e2);rw [hm, Bool.true_and];refine R5 ?_;refine zF rfl Tryz.call44 (Aq4 _) I4 ?_;refine R4 ?_;refine zq139 ?_;refine R5 ?_;refine zq139 ?_;refine R4 ?_;exact zq5
theorem Cv1 (w : D1) (l : B9) (hc : w.Clocks.length ≤ 9) (hk : ∀ k ∈ l.Keys, k.length ≤ 12) (hg : C9 F9.size l.Got ≤ 1048576) : E1 69 [AV.agg w.cs, AV.agg l.cs] (AV.bool (w8 w l)) := by
 have hg4 : C9 F9.size l.Got ≤ 4194304 := L4 hg D4;have hgn := O2 (f := F9.size) (l := l.Got);have hk2 := Cj9 hk;have hlk := DC6 l.Keys;refine B2 Tryz.func69 rfl Tryz.ntmps69 rfl ?_;refine R3 ?_;intro b2;refine R1 ?_;intro b3;refine R7 ?_;refine zF rfl Tryz.call121 (Bq7 _ AK2) (A2 (A0 rfl) B0) ?_;refine R13 ?_;refine T6 rfl (fun hc => zG rfl Tryz.call83 (BW2 _ W5) (A2 (A9 rfl hc) B0)) ?_;refine zC ?_ ?_
 ·intro h25;have he : w8 w l = false := (by unfold w8; rw [hlk]; simp only [A7] at h25; cases h1 : within l.Node 0 ((w.Clocks.length : Int) - 1) <;> cases h2 : Br4 l.Keys <;> cases h3 : AC4 l.Got <;> by_cases h4 : (l.Got.length : Int) ≤ (l.Keys.length : Int) <;> simp_all <;> omega);rw [he];refine R5 ?_;exact D5 rfl (A8 rfl qz182)
 intro h25;have hle : l.Got.length ≤ l.Keys.length := (by simp only [A7, AE4, AH1] at h25; have h9 := h25.1.2; omega);have he : w8 w l = (AU8 l.Got l.Keys && (((within l.Node 0 ((w.Clocks.length : Int) - 1) && j6 l.Time) && within l.Begin (-1) w.Count) && within l.End (-1) w.Count)) := (by unfold w8; rw [hlk]; simp only [A7, AE4, AJ5] at h25; rw [h25.1.1, h25.2, q8 (show (l.Got.length : Int) ≤ (l.Keys.length : Int) by omega)]; cases within l.Node 0 ((w.Clocks.length : Int) - 1) <;> cases AU8 l.Got l.Keys <;> rfl);rw [he];refine R10 ?_;refine F8 [(2, _), (3, _), (27, _), (28, _)] _ (fun (i : Nat) => i ≤ l.Got.length ∧ ∀ (j : Nat) (g : F9) (k : Str), j < i → l.Got[j]? = some g → l.Keys[j]? = some k → g.Key = k) (fun i => []) (fun i => [(29, AV.int i)]) (fun i => l.Got.length - i) (0) ?_ (H0 A4) ?_
 ·exact ⟨E2 _, fun j _ _ h => absurd h (Nat.not_lt_zero j)⟩
 intro i hinv;refine zK ?_ ?_
 ·intro h30 k30;have hlt : i < l.Got.length := (by simpa using h30);obtain ⟨x, hx⟩ := B3 hlt;obtain ⟨y, hy⟩ := B3 (show i < l.Keys.length by omega);refine zq23 ?_;intro b6;refine R10 ?_;refine B7 rfl rfl (zX hy) ?_;refine zC ?_ ?_
  ·intro h41;have hm : AU8 l.Got l.Keys = false := (by rw [← Bool.not_eq_true, Ar6 hle]; intro h9; have h8 := h9 i x y hx hy; simp [h8] at h41);rw [hm];refine R5 ?_;exact D5 rfl (A8 rfl qz182)
  intro h41;refine R5 ?_;refine G5 i (i + 1) ?_ ?_ (S4 1 A4)
  ·exact ⟨by omega, fun j g2 k2 hj e1 e2 => by rcases Nat.lt_or_eq_of_le (Nat.le_of_lt_succ hj) with h9 | rfl; exact hinv.2 j g2 k2 h9 e1 e2; rw [hx] at e1; rw [hy] at e2; injection e1 with e1; injection e2 with e2; subst e1; subst e2; simpa using h41⟩
  omega
 intro h30 k30;have hm : AU8 l.Got l.Keys = true := (Ar6 hle).2 (fun j g k e1 e2 => hinv.2 j g k (by have h9 := (G2.1 e1).1; omega) e1 e2);rw [hm, Bool.true_and];refine R9 ?_;refine zF rfl Tryz.call71 (Q0 _ _ _) Aw2 ?_;refine R3 ?_;refine J6 rfl (fun hc => zG rfl Tryz.call70 (Ai5 _) zS) ?_;refine zq116 ?_;refine zq116 ?_;refine R4 ?_;exact D5 rfl (A8 rfl qz182)
theorem CM1 (c : U4) : E1 47 [AV.agg c.cs] (AV.bool (!AB6 c)) := by
  refine B2 Tryz.func47 rfl Tryz.ntmps47 rfl ?_;refine R3 ?_;intro b1;refine R5 ?_;refine zF rfl Tryz.call48 (CU6 _) I4 ?_;exact zq109
theorem CM2 (w : D1) (t : B5) (h : C9 TOp.size t.Ops ≤ 1048576 ∧ C9 F9.size t.Got ≤ 1048576) : E1 50 [AV.agg t.cs, AV.eptr w.cs] (AV.bool (!AM7 w t)) := by
  refine B2 Tryz.func50 rfl Tryz.ntmps50 rfl ?_;refine R3 ?_;intro b2;refine R6 ?_;refine zF rfl Tryz.call51 (CM0 w t h.1 h.2) F4 ?_;exact zq109
theorem CM3 (w : D1) (l : B9) (hc : w.Clocks.length ≤ 9) (h : (∀ k ∈ l.Keys, k.length ≤ 12) ∧ C9 F9.size l.Got ≤ 1048576) : E1 53 [AV.agg l.cs, AV.eptr w.cs] (AV.bool (!w8 w l)) := by
  refine B2 Tryz.func53 rfl Tryz.ntmps53 rfl ?_;refine R3 ?_;intro b2;refine R6 ?_;refine zF rfl Tryz.call54 (CD5 w l hc h.1 h.2) F4 ?_;exact zq109
theorem shape_of {w : D1} (h : AN9 w = true) : w.Groups.length = w.Cuts.length + 1 ∧ w.Locks.length = w.Cuts.length + 1 ∧ w.Promised.length = w.Cuts.length + 1 := by
  unfold AN9 at h;simp only [D8, H5, i8] at h;omega
theorem CM4 (w : D1) (z : WZ w) : E1 18 [AV.agg w.cs] (AV.bool (o9 w)) := by
 have hcl := z.clocks;have hcu := z.cuts.1;have hck := Cj9 z.cuts.2;have hm1 := z.txns.2;have hm2 := z.looks.2;refine B2 Tryz.func18 rfl Tryz.ntmps18 rfl ?_;refine R3 ?_;intro b1;refine R20 ?_;refine T6 rfl (fun hc => zG rfl Tryz.call41 (Cg8 w.Cuts hck) zS) ?_;refine R28 ?_;refine T6 rfl (fun hc => Ap8 rfl J4 (A9 rfl hc) qz6) ?_;refine zC ?_ ?_
 ·intro h48;have hs : AN9 w = false := (by unfold AN9; simp only [A7] at h48; rw [← Bool.not_eq_true]; intro h9; simp only [D8, H5, i8] at h9; obtain ⟨⟨⟨⟨⟨a1, a2⟩, a3⟩, a4⟩, a5⟩, a6⟩ := h9; simp only [a2, AB1, H5, Ay7, Bool.not_true] at h48; simp at h48; omega);have he : o9 w = false := Bg7 (fun h9 => by rw [h9.1] at hs; cases hs);rw [he];refine R5 ?_;exact D5 rfl (A8 rfl qz33)
 intro h48;have hs : AN9 w = true := (by unfold AN9; simp only [A7, AE4, AH1, bne_eq_false_iff_eq, AJ5] at h48; obtain ⟨⟨⟨⟨⟨a1, a2⟩, a3⟩, a4⟩, a5⟩, a6⟩ := h48; rw [a2]; simp only [D8, H5, i8]; exact ⟨⟨⟨⟨⟨by omega, trivial⟩, by omega⟩, by omega⟩, by omega⟩, by omega⟩);have hs2 := shape_of hs;refine R10 ?_;refine F8 [(1, _), (50, _), (51, _)] _ (fun (i : Nat) => i ≤ w.Groups.length ∧ (∀ g ∈ w.Groups.take i, j5 g = true ∧ g.Reps.length = 3) ∧ (∀ l ∈ w.Locks.take i, AU7 l = true) ∧ ∀ p ∈ w.Promised.take i, j6 p = true) (fun i => []) (fun i => [(52, AV.int i)]) (fun i => w.Groups.length - i) (0) ?_ (H0 A4) ?_
 ·exact ⟨E2 _, fun _ h => Ab8, fun _ h => Ab8, fun _ h => Ab8⟩
 intro i hinv;refine zK ?_ ?_
 ·intro h53 k53;have hlt : i < w.Groups.length := (by simpa using h53);obtain ⟨g, hg⟩ := B3 hlt;have hgm := C2 hg;have hgs := (z.groups.2 g hgm).1;obtain ⟨k, hk⟩ := B3 (show i < w.Locks.length by omega);have hkm := C2 hk;have hks : C9 H3.size k ≤ 4194304 := L4 (z.locks.2 k hkm) D4;obtain ⟨p, hp⟩ := B3 (show i < w.Promised.length by omega);have hpm := C2 hp;refine R6 ?_;refine zq193 ?_;intro b5;refine R6 ?_;refine zF rfl Tryz.call42 (CL0 _ W5) (A2 (A0 rfl) B0) ?_;refine R11 ?_;refine T6 rfl (fun hc => C8 rfl U7 AA5 (A9 rfl hc) (A9 rfl hc) hk qz6) ?_;refine R1 ?_;refine T6 rfl (fun hc => zG rfl Tryz.call43 (CL1 _ W5) (A2 (A9 rfl hc) B0)) ?_;refine R6 ?_;refine T6 rfl (fun hc => C8 rfl H7 F2 (A9 rfl hc) (A9 rfl hc) hp qz6) ?_;refine R1 ?_;refine T6 rfl (fun hc => zG rfl Tryz.call44 (Aq4 _) zS) ?_;refine zC ?_ ?_
  ·intro h83;have he : o9 w = false := Bg7 (fun h9 => by simp only [A7] at h83; rw [(h9.2.1.1 g hgm).1, (h9.2.1.1 g hgm).2, h9.2.1.2.1 k hkm, h9.2.1.2.2 p hpm] at h83; revert h83; decide);rw [he];refine R5 ?_;exact D5 rfl (A8 rfl qz33)
  intro h83;simp only [A7, AE4, AJ5, bne_eq_false_iff_eq] at h83;refine R5 ?_;refine G5 i (i + 1) ?_ ?_ (S4 1 A4)
  ·exact ⟨by omega, BG1 hg hinv.2.1 ⟨h83.1.1.1, by omega⟩, BG1 hk hinv.2.2.1 h83.1.2, BG1 hp hinv.2.2.2 h83.2⟩
  omega
 intro h53 k53;have hge : w.Groups.length ≤ i := (by simpa using h53);have hal : (∀ g ∈ w.Groups, j5 g = true ∧ g.Reps.length = 3) ∧ (∀ l ∈ w.Locks, AU7 l = true) ∧ ∀ p ∈ w.Promised, j6 p = true := ⟨Am7 hge hinv.2.1, Am7 qz8 hinv.2.2.1, Am7 qz8 hinv.2.2.2⟩;refine R5 ?_;refine zF rfl Tryz.call44 (Aq4 _) I4 ?_;refine R3 ?_;refine zq156 ?_;refine R16 ?_;refine J6 rfl (fun hc => zG rfl Tryz.call46 (BV6 _ _ _ Aw1) (A2 (A9 rfl hc) (A2 (BX3 Tryz.call47 (fun c (_ : True) => CM1 c)) B0))) ?_;refine R5 ?_;refine J6 rfl (fun hc => BR2 rfl rfl I4) ?_;refine J6 rfl (fun hc => m5 rfl Tryz.call49 rfl (BJ4 _ _ _ Aw1) (U2 _) (O6 (evb (A9 rfl hc)) (O6 (AY7 (At4 0 (A9 rfl hc) rfl) (Ak5 Tryz.call50 (fun t (h : C9 TOp.size t.Ops ≤ 1048576 ∧ C9 F9.size t.Got ≤ 1048576) => CM2 _ t h))) o0))) ?_;refine R5 ?_;refine J6 rfl (fun hc => BR2 rfl rfl I4) ?_;refine J6 rfl (fun hc => m5 rfl Tryz.call52 rfl (BG9 _ _ _ Aw1) (U2 _) (O6 (evb (A9 rfl hc)) (O6 (AY7 (At4 0 (A9 rfl hc) rfl) (Ak5 Tryz.call53 (fun l (h : (∀ k ∈ l.Keys, k.length ≤ 12) ∧ C9 F9.size l.Got ≤ 1048576) => CM3 _ l hcl h))) o0))) ?_;refine R5 ?_;exact D5 rfl (A8 rfl qz33)
theorem Cd7 (l : List Int) : (l.all fun g => within g 0 100000) = true ↔ ∀ p ∈ l, j6 p = true := by rw [Y6]; exact Iff.rfl
theorem Cv2 (w : D1) (z : WZ w) : E1 25 [AV.agg w.cs] (AV.bool (o9 w)) := by
 have hcl := z.clocks;have hcu := z.cuts.1;have hck := Cj9 z.cuts.2;have htl := z.txns.1;have hll := z.looks.1;refine B2 Tryz.func25 rfl Tryz.ntmps25 rfl ?_;refine R3 ?_;intro b1;refine R15 ?_;refine zF rfl Tryz.call63 (Bp9 w.Cuts hck) I4 ?_;refine R17 ?_;refine T6 rfl (fun hc => Ap8 rfl J4 (A9 rfl hc) qz6) ?_;refine R19 ?_;refine T6 rfl (fun hc => zG rfl Tryz.call64 (CJ9 _ _ _) (A2 (A9 rfl hc) AP3)) ?_;refine zC ?_ ?_
 ·intro h58;have he : o9 w = false := Bg7 (fun h9 => by simp only [A7] at h58; have hs := h9.1; unfold AN9 at hs; simp only [D8, H5, i8] at hs; obtain ⟨⟨⟨⟨⟨a1, a2⟩, a3⟩, a4⟩, a5⟩, a6⟩ := hs; rw [a2, (Cd7 _).2 h9.2.1.2.2] at h58; simp at h58; omega);rw [he];exact zq138
 intro h58;simp only [A7, AE4, AH1, bne_eq_false_iff_eq, AJ5] at h58;have hs : AN9 w = true := (by unfold AN9; obtain ⟨⟨⟨⟨⟨⟨a1, a2⟩, a3⟩, a4⟩, a5⟩, a6⟩, a7⟩ := h58; rw [a1]; simp only [D8, H5, i8]; exact ⟨⟨⟨⟨⟨by omega, trivial⟩, by omega⟩, by omega⟩, by omega⟩, by omega⟩);have hpr := (Cd7 _).1 h58.2;refine R10 ?_;refine F8 [(1, _), (60, _), (61, _)] _ (fun (i : Nat) => i ≤ w.Groups.length ∧ (∀ g ∈ w.Groups.take i, j5 g = true ∧ g.Reps.length = 3) ∧ (∀ l ∈ w.Locks.take i, AU7 l = true)) (fun i => []) (fun i => [(62, AV.int i)]) (fun i => w.Groups.length - i) (0) ?_ (H0 A4) ?_
 ·exact ⟨E2 _, fun _ h => Ab8, fun _ h => Ab8⟩
 intro i hinv;refine zK ?_ ?_
 ·intro h63 k63;have hlt : i < w.Groups.length := (by simpa using h63);obtain ⟨g, hg⟩ := B3 hlt;have hgm := C2 hg;have hgs := (z.groups.2 g hgm).1;obtain ⟨k, hk⟩ := B3 (show i < w.Locks.length by omega);have hkm := C2 hk;have hks : C9 H3.size k ≤ 4194304 := L4 (z.locks.2 k hkm) D4;refine R6 ?_;refine zq193 ?_;intro b5;refine R6 ?_;refine zF rfl Tryz.call65 (AZ6 _ W5) (A2 (A0 rfl) B0) ?_;refine R11 ?_;refine T6 rfl (fun hc => C8 rfl U7 AA5 (A9 rfl hc) (A9 rfl hc) hk qz6) ?_;refine R1 ?_;refine T6 rfl (fun hc => zG rfl Tryz.call66 (Ch2 _ W5) (A2 (A9 rfl hc) B0)) ?_;refine zC ?_ ?_
  ·intro h84;have he : o9 w = false := Bg7 (fun h9 => by simp only [A7] at h84; rw [(h9.2.1.1 g hgm).1, (h9.2.1.1 g hgm).2, h9.2.1.2.1 k hkm] at h84; revert h84; decide);rw [he];exact zq138
  intro h84;simp only [A7, AE4, AJ5, bne_eq_false_iff_eq] at h84;refine R5 ?_;refine G5 i (i + 1) ?_ ?_ (S4 1 A4)
  ·exact ⟨by omega, BG1 hg hinv.2.1 ⟨h84.1.1, by omega⟩, BG1 hk hinv.2.2 h84.2⟩
  omega
 intro h63 k63;have hge : w.Groups.length ≤ i := (by simpa using h63);have hal : (∀ g ∈ w.Groups, j5 g = true ∧ g.Reps.length = 3) ∧ (∀ l ∈ w.Locks, AU7 l = true) := ⟨Am7 hge hinv.2.1, Am7 qz8 hinv.2.2⟩;refine R10 ?_;refine F8 [(1, _), (87, _), (88, _)] _ (fun (i : Nat) => i ≤ w.Clocks.length ∧ ∀ c ∈ w.Clocks.take i, AB6 c = true) (fun i => []) (fun i => [(89, AV.int i)]) (fun i => w.Clocks.length - i) (0) ?_ (H0 A4) ?_
 ·exact ⟨E2 _, fun _ h => Ab8⟩
 intro i hinv;refine zK ?_ ?_
 ·intro h90 k90;have hlt : i < w.Clocks.length := (by simpa using h90);obtain ⟨c, hc⟩ := B3 hlt;refine R5 ?_;refine A1 rfl (zX hc) ?_;refine R2 ?_;intro b7;refine R5 ?_;refine zF rfl Tryz.call67 (Cu4 _) I4 ?_;refine zC ?_ ?_
  ·intro h95;have he : o9 w = false := Bg7 (fun h9 => by rw [h9.2.2.2.1 c (C2 hc)] at h95; cases h95);rw [he];exact zq138
  intro h95;refine R5 ?_;refine G5 i (i + 1) ?_ ?_ (S4 1 A4)
  ·exact ⟨by omega, BG1 hc hinv.2 (by simpa using h95)⟩
  omega
 intro h90 k90;have hcs := Am7 (show w.Clocks.length ≤ i by simpa using h90) hinv.2;refine R10 ?_;refine F8 [(1, _), (98, _), (99, _)] _ (fun (i : Nat) => i ≤ w.Txns.length ∧ ∀ t ∈ w.Txns.take i, AM7 w t = true) (fun i => []) (fun i => [(100, AV.int i)]) (fun i => w.Txns.length - i) (0) ?_ (H0 A4) ?_
 ·exact ⟨E2 _, fun _ h => Ab8⟩
 intro i hinv;refine zK ?_ ?_
 ·intro h101 k101;have hlt : i < w.Txns.length := (by simpa using h101);obtain ⟨t, ht⟩ := B3 hlt;have htz := z.txns.2 t (C2 ht);have htz1 := htz.1;have htz2 := htz.2;refine R5 ?_;refine zq192 ?_;intro b9;refine R6 ?_;refine zF rfl Tryz.call68 (DC9 _ _ AK2 AK2) (A2 (A0 rfl) (A2 (A0 rfl) B0)) ?_;refine zC ?_ ?_
  ·intro h107;have he : o9 w = false := Bg7 (fun h9 => by rw [h9.2.2.2.2.1 t (C2 ht)] at h107; cases h107);rw [he];exact zq138
  intro h107;refine R5 ?_;refine G5 i (i + 1) ?_ ?_ (S4 1 A4)
  ·exact ⟨by omega, BG1 ht hinv.2 (by simpa using h107)⟩
  omega
 intro h101 k101;have hts := Am7 (show w.Txns.length ≤ i by simpa using h101) hinv.2;refine R10 ?_;refine F8 [(1, _), (110, _), (111, _)] _ (fun (i : Nat) => i ≤ w.Looks.length ∧ ∀ l ∈ w.Looks.take i, w8 w l = true) (fun i => []) (fun i => [(112, AV.int i)]) (fun i => w.Looks.length - i) (0) ?_ (H0 A4) ?_
 ·exact ⟨E2 _, fun _ h => Ab8⟩
 intro i hinv;refine zK ?_ ?_
 ·intro h113 k113;have hlt : i < w.Looks.length := (by simpa using h113);obtain ⟨l, hl⟩ := B3 hlt;have hlz := z.looks.2 l (C2 hl);have hlz1 := hlz.1;have hlz2 := hlz.2;refine R5 ?_;refine A1 rfl (zX hl) ?_;refine R2 ?_;intro b11;refine R6 ?_;refine zF rfl Tryz.call69 (Cv1 _ _ AK2 AK2 AK2) (A2 (A0 rfl) (A2 (A0 rfl) B0)) ?_;refine zC ?_ ?_
  ·intro h119;have he : o9 w = false := Bg7 (fun h9 => by rw [h9.2.2.2.2.2 l (C2 hl)] at h119; cases h119);rw [he];exact zq138
  intro h119;refine R5 ?_;refine G5 i (i + 1) ?_ ?_ (S4 1 A4)
  ·exact ⟨by omega, BG1 hl hinv.2 (by simpa using h119)⟩
  omega
 intro h113 k113;have hls := Am7 (show w.Looks.length ≤ i by simpa using h113) hinv.2;refine R5 ?_;refine zF rfl Tryz.call70 (Ai5 _) I4 ?_;refine R3 ?_;refine zq38 ?_;refine R16 ?_;exact D5 rfl (A8 rfl CQ8)
end Go.PQ
namespace Go.PQ
open Go.Proofs Go.Proofs.Tryz
open Go Go.AV Go.M
attribute [local irreducible] OpW OpA OpS AWP K6 L8 K8 OpE K7 I7 L1 Le Ev G4 M7 j0 Int.tmod Int.tdiv IntKind.wrap T3
theorem CM5 (b : Nat) (code : List Int) (hcode : AB3 code) (c : Z3) (w : D1) (hw : WI w) (hp : c.p ≤ 5000000) : L7 186 [AV.ptr b 0, AV.agg w.cs] [.box b 86 (Y0 code c)] (fun x : Z3 × Z8 => x.1.p ≤ c.p + 6 ∧ r9 x.2) (fun x => [.box b 86 (Y0 code x.1)]) (fun x => AV.agg x.2.cs) := by
 have hng := hw.n;have hcl := hw.clocks.1;have htl := hw.txns.1;have hll := hw.looks.1;refine C6 func186 rfl ntmps186 rfl ?_;refine R3 ?_;intro b3;refine R1 ?_;intro b4;refine R12 ?_;refine zI [2] rfl call82 (Q6 _ _ hcode _ _ Aj1 qz8) (A2 (A0 rfl) (A2 J4 B0)) rfl ?_;intro x10 ok10;refine zC ?_ ?_
 ·intro h11;refine R4 ?_;refine zq27 ?_;intro x15 ok15;refine R1 ?_;refine zq145 ?_;intro x17 ok17;refine R4 ?_
  (refine I5 [0] ((x17.1, ⟨2, x15.2, x17.2⟩)) ?_ rfl n9 (N4 rfl (F5 (ys := _) 1 rfl rfl AG1 z6 rfl)); (simp only [A7] at *; unfold r9; dsimp only; exact ⟨by omega, ⟨⟨by omega, by omega⟩, by omega, by omega⟩⟩))
 intro h11;refine zC ?_ ?_
 ·intro h19;refine R4 ?_;refine zI [0] rfl call86 (AM0 _ _ hcode _ ([(3), (3), (4)] : List Int) D4 qz8) (A2 (A0 rfl) (A2 (A0 rfl) B0)) rfl ?_;intro x23 ok23;refine R2 ?_;refine zq27 ?_;intro x26 ok26;refine R4 ?_
  (refine I5 [0] ((x26.1, ⟨x23.2, x26.2, 0⟩)) ?_ rfl n9 (N4 rfl (F5 (ys := _) 1 rfl rfl AG1 z6 rfl)); (simp only [A7] at *; unfold r9; dsimp only; exact ⟨by omega, ⟨⟨by omega, by omega⟩, by omega, by omega⟩⟩))
 intro h19;refine zC ?_ ?_
 ·intro h28;refine R4 ?_;refine zI [0] rfl call86 (AM0 _ _ hcode _ ([(4), (5)] : List Int) D4 qz8) (A2 (A0 rfl) (A2 (A0 rfl) B0)) rfl ?_;intro x32 ok32;refine R2 ?_;refine zq27 ?_;intro x35 ok35;refine R4 ?_
  (refine I5 [0] ((x35.1, ⟨x32.2, x35.2, 0⟩)) ?_ rfl n9 (N4 rfl (F5 (ys := _) 1 rfl rfl AG1 z6 rfl)); (simp only [A7] at *; unfold r9; dsimp only; exact ⟨by omega, ⟨⟨by omega, by omega⟩, by omega, by omega⟩⟩))
 intro h28;refine zC ?_ ?_
 ·intro h37;refine R1 ?_;refine zL [2] ?_;refine O5 _ [(0, false), (1, false), (3, false), (4, false), (5, false), (6, false), (2, true), (7, true)] E6 E6 rfl (S1 1) ?_;refine R6 ?_;refine S8 rfl rfl rfl (P3 [1] rfl call86 rfl (AM0 _ _ hcode _ ([(5), (6)] : List Int) D4 qz8) (A2 (A0 rfl) (A2 (A0 rfl) B0)) rfl) (fun a _ => qz4) ?_;intro x41 ok41;refine S8 rfl rfl rfl (P3 [2] rfl call82 rfl (Q6 _ _ hcode _ _ Aj1 qz8) (A2 (A0 rfl) (A2 (A0 rfl) B0)) rfl) (fun a _ => qz4) ?_;intro x46 ok46;refine R5 ?_
  (refine I5 [2] ((x46.1, ⟨x41.2, x46.2, 0⟩)) ?_ rfl n9 (N4 rfl (F5 (ys := _) 1 rfl rfl AG1 z6 rfl)); (simp only [A7] at *; unfold r9; dsimp only; exact ⟨by omega, ⟨⟨by omega, by omega⟩, by omega, by omega⟩⟩))
 intro h37;refine zC ?_ ?_
 ·intro h48;refine zC ?_ ?_
  ·intro h48;refine R3 ?_;refine zq145 ?_;intro x52 ok52;refine R5 ?_
   (refine I5 [0] ((x52.1, ⟨1, 1 + x52.2, 0⟩)) ?_ rfl n9 (N4 rfl (F5 (ys := _) 1 rfl rfl AG1 z6 rfl)); (simp only [A7] at *; unfold r9; dsimp only; exact ⟨by omega, ⟨⟨by omega, by omega⟩, by omega, by omega⟩⟩))
  intro hz9; rw [h48] at hz9; cases hz9
 intro h48;refine zC ?_ ?_
 ·intro h48;refine R3 ?_;refine zq145 ?_;intro x52 ok52;refine R5 ?_
  (refine I5 [0] ((x52.1, ⟨1, 1 + x52.2, 0⟩)) ?_ rfl n9 (N4 rfl (F5 (ys := _) 1 rfl rfl AG1 z6 rfl)); (simp only [A7] at *; unfold r9; dsimp only; exact ⟨by omega, ⟨⟨by omega, by omega⟩, by omega, by omega⟩⟩))
 intro h48;refine zC ?_ ?_
 ·intro h55;refine R1 ?_;refine zL [2] ?_;refine O5 _ [(0, false), (1, false), (3, false), (4, false), (5, false), (6, false), (2, true), (7, false), (8, true)] E6 E6 rfl (S1 1) ?_;refine R6 ?_;refine S8 rfl rfl rfl (P3 [1] rfl call86 rfl (AM0 _ _ hcode _ ([(8), (9), (9), (9)] : List Int) D4 qz8) (A2 (A0 rfl) (A2 (A0 rfl) B0)) rfl) (fun a _ => qz4) ?_;intro x59 ok59;refine P7 rfl rfl rfl (fun ext => zG rfl call211 (AG8 _ _) (A2 J4 I4)) ?_;refine S8 rfl rfl rfl (P3 [2] rfl call82 rfl (Q6 _ _ hcode _ _ Aj1 qz8) (A2 (A0 rfl) (A2 (A0 rfl) B0)) rfl) (fun a _ => qz4) ?_;intro x65 ok65;refine R5 ?_
  (refine I5 [2] ((x65.1, ⟨x59.2, x65.2, 0⟩)) ?_ rfl n9 (N4 rfl (F5 (ys := _) 1 rfl rfl AG1 z6 rfl)); (simp only [A7] at *; unfold r9; dsimp only; exact ⟨by omega, ⟨⟨by omega, by omega⟩, by omega, by omega⟩⟩))
 intro h55;refine zC ?_ ?_
 ·intro h67;refine zC ?_ ?_
  ·intro h67;refine R6 ?_;refine zq170 ?_;refine zq27 ?_;intro x75 ok75;refine R4 ?_
   (refine I5 [0] ((x75.1, ⟨10, x75.2, 0⟩)) ?_ rfl n9 (N4 rfl (F5 (ys := _) 1 rfl rfl AG1 z6 rfl)); (simp only [A7] at *; unfold r9; dsimp only; exact ⟨by omega, ⟨⟨by omega, by omega⟩, by omega, by omega⟩⟩))
  intro hz9; rw [h67] at hz9; cases hz9
 intro h67;refine zC ?_ ?_
 ·intro h67;refine R6 ?_;refine zq170 ?_;refine zq27 ?_;intro x75 ok75;refine R4 ?_
  (refine I5 [0] ((x75.1, ⟨10, x75.2, 0⟩)) ?_ rfl n9 (N4 rfl (F5 (ys := _) 1 rfl rfl AG1 z6 rfl)); (simp only [A7] at *; unfold r9; dsimp only; exact ⟨by omega, ⟨⟨by omega, by omega⟩, by omega, by omega⟩⟩))
 intro h67;refine R7 ?_;refine zq170 ?_;refine zq27 ?_;intro x82 ok82;refine R4 ?_
 (refine I5 [0] ((x82.1, ⟨7, x82.2, 0⟩)) ?_ rfl n9 (N4 rfl (F5 (ys := _) 1 rfl rfl AG1 z6 rfl)); (simp only [A7] at *; unfold r9; dsimp only; exact ⟨by omega, ⟨⟨by omega, by omega⟩, by omega, by omega⟩⟩))
theorem DD0 (b : Nat) (code : List Int) (hcode : AB3 code) (c : Z3) (w : D1) (most : Int) (hw : WI w) (hm : 0 ≤ most ∧ most ≤ 100) (hp : c.p ≤ 4000000) : L7 146 [AV.ptr b 0, AV.agg w.cs, AV.int most] [.box b 86 (Y0 code c)] (fun x : Z3 × List Z8 × Value => x.1.p ≤ c.p + 1000 ∧ x.2.1.length ≤ 101 ∧ ∀ a ∈ x.2.1, r9 a) (fun x => [.box b 86 (Y0 code x.1), .arr x.2.2 228 3 (x.2.1.map Z8.cs)]) (fun x => AV.is x.2.2) := by
 refine C6 func146 rfl ntmps146 rfl ?_;refine R3 ?_;intro b4;refine zq7 ?_;refine R3 ?_;refine V0 228 3 rfl rfl rfl rfl I2 ?_;intro v7;refine R7 ?_;refine zI [2] rfl call82 (Q6 _ _ hcode _ _ qz8 qz8) (A2 (A0 rfl) (A2 (A0 rfl) B0)) rfl ?_;intro x12 ok12;obtain ⟨n0, hn0⟩ : ∃ n0 : Nat, x12.2 = n0 := ⟨x12.2.toNat, by omega⟩;refine R3 ?_;refine zL [0, 0] ?_;refine AU2 [(0, _), (4, _), (6, _)] _ (fun (n : Nat) (cc : Z3) (l : List Z8) (v : Value) => n + l.length = n0 ∧ cc.p ≤ c.p + 2 + 6 * l.length ∧ ∀ a ∈ l, r9 a) (fun n cc l v => [.box b 86 (Y0 code cc), .arr v 228 3 (l.map Z8.cs)]) (fun n cc l v => [(7, AV.is v), (8, AV.int n)]) (fun n cc l v => n) (n0) (x12.1) ([]) (v7) ?_ (K5 B8 ⟨rfl, E5 (fun z => some (AV.int z)) qz8, rfl, rfl, rfl, trivial⟩) ?_
 ·exact ⟨by simp, by omega, fun a h => by cases h⟩
 intro n cc l v hinv;refine zK ?_ ?_
 ·intro h14 k14;refine R7 ?_;refine zI [0] rfl call186 (CM5 _ _ hcode _ w hw qz8) (A2 (A0 rfl) (A2 (A0 rfl) B0)) rfl ?_;intro x20 ok20;refine R1 ?_;refine G1 (by' := 24) 1 rfl rfl rfl rfl underlying186 type228 rfl rfl rfl rfl rfl rfl zA zA rfl Aa6 ?_;intro v22_1;refine R7 ?_;refine AB7 n cc l v (n - 1) (x20.1) (l ++ [x20.2]) (v22_1) ?_ ?_ (Le.trans (B4 [0, 0] rfl) (K5 Ar4 ⟨rfl, E5 (fun z => some (AV.int z)) qz8, rfl, rfl, rfl, trivial⟩))
  ·exact ⟨by rw [G3, I9, Q8]; omega, by rw [G3, I9, Q8]; omega, fun a ha => (u6.1 ha).elim (hinv.2.2 a) fun e => by (rw [X9.1 e]; exact ok20.2)⟩
  omega
 intro h14 k14;refine R7 ?_
 (refine I5 [0, 0] ((cc, l, v)) ?_ rfl n9 M9; exact ⟨show cc.p ≤ _ by omega, show l.length ≤ 101 by omega, hinv.2.2⟩)
theorem Ay6 (b : Nat) (code : List Int) (hcode : AB3 code) (c : Z3) (w : D1) (most : Int) (hw : WI w) (hm : 0 ≤ most ∧ most ≤ 100) (hp : c.p ≤ 4000000) : L7 146 [AV.ptr b 0, AV.agg w.cs, AV.int most] [.box b 86 (Y0 code c)] (fun x : Z3 × List Z8 => x.1.p ≤ c.p + 1000 ∧ x.2.length ≤ 101 ∧ ∀ a ∈ x.2, r9 a) (fun x => [.box b 86 (Y0 code x.1)]) (fun x => AV.list 3 (x.2.map Z8.cs)) :=
  AP5 (fun x => (x.1, x.2.1)) (fun x => [.arr x.2.2 228 3 (x.2.1.map Z8.cs)]) (fun x => [.box b 86 (Y0 code x.1)]) (DD0 b code hcode c w most hw hm hp) (fun _ h => h) (fun x _ => K3 (X9.2 rfl) F6) (fun x _ => AO2 (l₁ := [_])) (fun _ _ => o6 0 rfl rfl N7) (fun x _ => BX6 ⟨rfl, rfl, AI4⟩ BN2)
theorem CM6 (b : Nat) (code : List Int) (hcode : AB3 code) (c : Z3) (hp : c.p ≤ 3000000) : L7 182 [AV.ptr b 0] [.box b 86 (Y0 code c)] (fun x : Z3 × List (List TOp) × Value => x.1.p ≤ c.p + 500 ∧ x.2.1.length ≤ 4 ∧ ∀ p ∈ x.2.1, Cw5 p) (fun x => [.box b 86 (Y0 code x.1), .arr x.2.2 53 1 (x.2.1.map fun l => [AV.list 4 (l.map TOp.cs)])]) (fun x => AV.is x.2.2) := by
 refine C6 func182 rfl ntmps182 rfl ?_;refine zq104 ?_;refine V0 53 1 rfl rfl rfl rfl I2 ?_;intro v3;refine R5 ?_;refine zq21 ?_;intro x6 ok6;obtain ⟨n0, hn0⟩ : ∃ n0 : Nat, x6.2 = n0 := ⟨x6.2.toNat, by omega⟩;refine R4 ?_;refine zL [0, 0] ?_;refine AU2 [(0, _), (2, _)] _ (fun (n : Nat) (cc : Z3) (l : List (List TOp)) (v : Value) => n + l.length = 1 + n0 ∧ cc.p ≤ c.p + 2 + 100 * l.length ∧ ∀ p ∈ l, Cw5 p) (fun n cc l v => [.box b 86 (Y0 code cc), .arr v 53 1 (l.map fun l => [AV.list 4 (l.map TOp.cs)])]) (fun n cc l v => [(3, AV.is v), (4, AV.int n)]) (fun n cc l v => n) (1 + n0) (x6.1) ([]) (v3) ?_ (K5 B8 ⟨rfl, E5 (fun z => some (AV.int z)) qz8, rfl, rfl, trivial⟩) ?_
 ·exact ⟨by simp, by simp; omega, fun a h => by cases h⟩
 intro n cc l v hinv;refine zK ?_ ?_
 ·intro h9 k9;refine R6 ?_;refine zI [0] rfl call138 (By7 _ _ hcode _ qz8) (A2 (A0 rfl) B0) rfl ?_;intro x14 ok14;refine O4 1 rfl fun one_x14_2_2 => ?_;refine BD6 (AL9 [1] 14 rfl rfl (K3 (C2 (i := 0) rfl) F6) (o6 0 rfl rfl N7)) ?_;refine R1 ?_;refine G1 (by' := 24) 1 rfl rfl rfl rfl underlying223 type53 rfl rfl rfl rfl rfl rfl zA zA rfl Aa6 ?_;intro v16_1;refine R7 ?_;refine AB7 n cc l v (n - 1) (x14.1) (l ++ [x14.2.1]) (v16_1) ?_ ?_ (Le.trans (B4 [0, 0] rfl) (K5 Ar4 ⟨rfl, E5 (fun z => some (AV.int z)) qz8, rfl, rfl, trivial⟩))
  ·exact ⟨by rw [G3, I9, Q8]; omega, by rw [G3, I9, Q8]; omega, fun a ha => (u6.1 ha).elim (hinv.2.2 a) fun e => by (rw [X9.1 e]; exact ⟨DY7 qz8 ok14.2.2, ok14.2.1.1⟩)⟩
  omega
 intro h9 k9;refine R7 ?_
 (refine I5 [0, 0] ((cc, l, v)) ?_ rfl n9 M9; exact ⟨show cc.p ≤ _ by omega, show l.length ≤ 4 by omega, hinv.2.2⟩)
theorem Au1 (b : Nat) (code : List Int) (hcode : AB3 code) (c : Z3) (hp : c.p ≤ 3000000) : L7 182 [AV.ptr b 0] [.box b 86 (Y0 code c)] (fun x : Z3 × List (List TOp) => x.1.p ≤ c.p + 500 ∧ x.2.length ≤ 4 ∧ ∀ p ∈ x.2, Cw5 p) (fun x => [.box b 86 (Y0 code x.1)]) (fun x => AV.list 1 (x.2.map fun l => [AV.list 4 (l.map TOp.cs)])) :=
  AP5 (fun x => (x.1, x.2.1)) (fun x => [.arr x.2.2 53 1 (x.2.1.map fun l => [AV.list 4 (l.map TOp.cs)])]) (fun x => [.box b 86 (Y0 code x.1)]) (CM6 b code hcode c hp) (fun _ h => h) (fun x _ => K3 (X9.2 rfl) F6) (fun x _ => AO2 (l₁ := [_])) (fun _ _ => o6 0 rfl rfl N7) (fun x _ => BX6 ⟨rfl, rfl, AI4⟩ BN2)
theorem CM7 (b : Nat) (code : List Int) (hcode : AB3 code) (c : Z3) (hp : c.p ≤ 3000000) : L7 183 [AV.ptr b 0] [.box b 86 (Y0 code c)] (fun x : Z3 × List (List Str) × Value => x.1.p ≤ c.p + 100 ∧ x.2.1.length ≤ 4 ∧ ∀ p ∈ x.2.1, CW3 p) (fun x => [.box b 86 (Y0 code x.1), .arr x.2.2 25 1 (x.2.1.map fun l => [strs l])]) (fun x => AV.is x.2.2) := by
 refine C6 func183 rfl ntmps183 rfl ?_;refine zq104 ?_;refine V0 25 1 rfl rfl rfl rfl I2 ?_;intro v3;refine R5 ?_;refine zq21 ?_;intro x8 ok8;obtain ⟨n0, hn0⟩ : ∃ n0 : Nat, x8.2 = n0 := ⟨x8.2.toNat, by omega⟩;refine R3 ?_;refine zL [0, 0] ?_;refine AU2 [(0, _), (2, _)] _ (fun (n : Nat) (cc : Z3) (l : List (List Str)) (v : Value) => (n + l.length = n0 ∧ n0 ≤ 2) ∧ cc.p ≤ c.p + 2 + 20 * l.length ∧ ∀ p ∈ l, CW3 p) (fun n cc l v => [.box b 86 (Y0 code cc), .arr v 25 1 (l.map fun l => [strs l])]) (fun n cc l v => [(3, AV.is v), (4, AV.int n)]) (fun n cc l v => n) (n0) (x8.1) ([]) (v3) ?_ (K5 B8 ⟨rfl, E5 (fun z => some (AV.int z)) qz8, rfl, rfl, trivial⟩) ?_
 ·exact ⟨⟨by simp, by omega⟩, by simp; omega, fun a h => by cases h⟩
 intro n cc l v hinv;refine zK ?_ ?_
 ·intro h10 k10;have hinv0 := hinv;refine R5 ?_;refine V0 9 1 rfl rfl rfl rfl I2 ?_;intro v5;refine R5 ?_;refine zq21 ?_;intro x14 ok14;obtain ⟨m0, hm0⟩ : ∃ m0 : Nat, x14.2 = m0 := ⟨x14.2.toNat, by omega⟩;refine R4 ?_;refine zL [0, 0, 0] ?_;refine AU2 [(0, _), (2, _), (3, _), (4, _), (9, _), (10, _), (13, _), (14, _), (15, _)] _ (fun (m : Nat) (c2 : Z3) (rs : List Str) (u : Value) => (m + rs.length ≤ 1 + m0 ∧ (m = 1 + m0 ∨ 1 ≤ rs.length)) ∧ c2.p + 2 * m ≤ cc.p + 4 + 2 * m0 ∧ AV6 rs ∧ ∀ k ∈ rs, k ∈ AD0) (fun m c2 rs u => [.box b 86 (Y0 code c2), .arr u 9 1 (rs.map fun t => [AV.str t]), .arr v 25 1 (l.map fun l => [strs l])]) (fun m c2 rs u => [(5, AV.is u), (6, AV.int m)]) (fun m c2 rs u => m) (1 + m0) (x14.1) ([]) (v5) ?_ (K5 B8 ⟨rfl, E5 (fun z => some (AV.int z)) qz8, rfl, rfl, rfl, rfl, rfl, rfl, rfl, rfl, rfl, trivial⟩) ?_
  ·exact ⟨⟨by simp, .inl rfl⟩, by omega, List.Pairwise.nil, fun k hk => by cases hk⟩
  intro m c2 rs u hinv;refine zK ?_ ?_
  ·intro h17 k17;refine R6 ?_;refine zI [0] rfl call205 (By4 _ _ hcode _ qz8) (A2 (A0 rfl) B0) rfl ?_;intro x22 ok22;refine zI [1] rfl call125 (Ag7 u rs x22.2 hinv.2.2.1 qz8) F4 rfl ?_;intro x23 ok23;refine R7 ?_;refine AB7 m c2 rs u (m - 1) (x22.1) (AE7 rs x22.2) (x23) ?_ ?_ (Le.trans (B4 [1, 0, 0] rfl) (K5 B8 ⟨rfl, E5 (fun z => some (AV.int z)) qz8, rfl, rfl, rfl, rfl, rfl, rfl, rfl, rfl, rfl, trivial⟩))
   ·(have h9 := Be0 x22.2 rs; have h6 : 1 ≤ (AE7 rs x22.2).length := putS_pos x22.2 rs; exact ⟨⟨by omega, .inr h6⟩, by omega, (BN4 hinv.2.2.1).1, fun k hk => by (rcases ((BN4 hinv.2.2.1).2 k).1 hk with hk | hk; (exact hinv.2.2.2 k hk); (rw [hk]; exact ok22.2))⟩)
   omega
  intro h17 k17;refine R4 ?_;refine O4 1 rfl fun one_u => ?_;refine BD6 (AL9 [1] 25 rfl rfl (K3 (C2 (i := 0) rfl) F6) (o6 0 rfl rfl N7)) ?_;refine R1 ?_;refine G1 (by' := 24) 1 rfl rfl rfl rfl AN2 type25 rfl rfl rfl rfl rfl rfl zA zA rfl Aa6 ?_;intro v27_1;refine R7 ?_;refine AB7 n cc l v (n - 1) (c2) (l ++ [rs]) (v27_1) ?_ ?_ (Le.trans (B4 [0, 0] rfl) (K5 Ar4 ⟨rfl, E5 (fun z => some (AV.int z)) qz8, rfl, rfl, trivial⟩))
  ·exact ⟨⟨by rw [G3, I9, Q8]; omega, by omega⟩, by rw [G3, I9, Q8]; omega, fun a ha => (u6.1 ha).elim (hinv0.2.2 a) fun e => by (rw [X9.1 e]; exact ⟨⟨by omega, by omega⟩, hinv.2.2.1, hinv.2.2.2⟩)⟩
  omega
 intro h10 k10;refine R7 ?_
 (refine I5 [0, 0] ((cc, l, v)) ?_ rfl n9 M9; exact ⟨show cc.p ≤ _ by omega, show l.length ≤ 4 by omega, hinv.2.2⟩)
theorem Ah0 (b : Nat) (code : List Int) (hcode : AB3 code) (c : Z3) (hp : c.p ≤ 3000000) : L7 183 [AV.ptr b 0] [.box b 86 (Y0 code c)] (fun x : Z3 × List (List Str) => x.1.p ≤ c.p + 100 ∧ x.2.length ≤ 4 ∧ ∀ p ∈ x.2, CW3 p) (fun x => [.box b 86 (Y0 code x.1)]) (fun x => AV.list 1 (x.2.map fun l => [strs l])) :=
  AP5 (fun x => (x.1, x.2.1)) (fun x => [.arr x.2.2 25 1 (x.2.1.map fun l => [strs l])]) (fun x => [.box b 86 (Y0 code x.1)]) (CM7 b code hcode c hp) (fun _ h => h) (fun x _ => K3 (X9.2 rfl) F6) (fun x _ => AO2 (l₁ := [_])) (fun _ _ => o6 0 rfl rfl N7) (fun x _ => BX6 ⟨rfl, rfl, AI4⟩ BN2)
def Ck5 : List (List Str) := [[[109]], [[99]], [], [[98], [110]]]
theorem Cv3 {l : List Str} (h : l ∈ Ck5) : Ae3 l = true ∧ l.length ≤ 2 ∧ ∀ k ∈ l, k.length ≤ 12 := by
  have : ∀ l ∈ Ck5, Ae3 l = true ∧ l.length ≤ 2 ∧ ∀ k ∈ l, k.length ≤ 12 := by decide
  exact this l h
theorem BS9 (b : Nat) (code : List Int) (hcode : AB3 code) (c : Z3) (hp : c.p ≤ 2000000) : L7 144 [AV.ptr b 0] [.box b 86 (Y0 code c)] (fun x : Z3 × D1 => x.1.p ≤ c.p + 700 ∧ WI x.2 ∧ WQ x.2) (fun x => [.box b 86 (Y0 code x.1)]) (fun x => AV.agg x.2.cs) := by
 refine C6 func144 rfl ntmps144 rfl ?_;refine R3 ?_;intro b2;refine R2 ?_;refine V9 _ 19 (.pure 0 (.pure 1 (.pure 2 (.pure 3 (.pure 4 (.pure 5 (.pure 9 (.pure 11 (.e2 6 (.pure 7 (.pure 8 (.e2 10 (.e2 12 (.e2 13 (.pure 14 (.pure 15 (.pure 16 (.e1 17 (.e1 18 .nil))))) 17 (.e1 13 (.pure 14 (.pure 15 (.pure 16 (.e1 18 .nil)))))) 17 (.e1 12 (.e1 13 (.pure 14 (.pure 15 (.pure 16 (.e1 18 .nil))))))) 17 (.e1 10 (.e1 12 (.e1 13 (.pure 14 (.pure 15 (.pure 16 (.e1 18 .nil)))))))))) 17 (.e1 6 (.pure 7 (.pure 8 (.e1 10 (.e1 12 (.e1 13 (.pure 14 (.pure 15 (.pure 16 (.e1 18 .nil))))))))))))))))))) E6 E6 rfl (S1 1) ?_;refine M0 rfl rfl rfl (fun ext => At3 rfl F0 K1 zeroValue9 rfl rfl rfl rfl (D7 (J1 (l := [109]) rfl) (n6 _) V1) rfl rfl) ?_;refine M0 rfl rfl rfl (fun ext => At3 rfl F0 K1 zeroValue9 rfl rfl rfl rfl (D7 (J1 (l := [99]) rfl) (n6 _) V1) rfl rfl) ?_;refine R1 ?_;refine M0 rfl rfl rfl (fun ext => At3 rfl F0 K1 zeroValue9 rfl rfl rfl rfl (D7 (J1 (l := [98]) rfl) (n6 _) (D7 (J1 (l := [110]) rfl) (n6 _) V1)) rfl rfl) ?_;refine R4 ?_;refine AP4 ?_ ?_
 ·refine J8 rfl rfl rfl (P3 [1] rfl call82 rfl (Q6 _ _ hcode _ _ qz8 qz8) (A2 (A0 rfl) (A2 J4 B0)) rfl) (fun a _ => qz4) ?_;intro x12 ok12;obtain ⟨cu, hcu⟩ := B3 (show x12.2.toNat < Ck5.length from (show x12.2.toNat < 4 by omega));have hco := Cv3 (C2 hcu);refine M0 rfl rfl rfl (fun ext => Ac0 rfl AN2 AI8 zA zA qz8 (O1 (f := fun l : List Str => [strs l]) hcu)) ?_;refine R1 ?_;refine AP4 ?_ ?_
  ·refine J8 rfl rfl rfl (P3 [1] rfl call182 rfl (Au1 _ _ hcode _ qz8) (A2 (A0 rfl) B0) rfl) (fun a _ => qz4) ?_;intro x16 ok16;refine AP4 ?_ ?_
   ·refine J8 rfl rfl rfl (P3 [1] rfl call183 rfl (Ah0 _ _ hcode _ qz8) (A2 (A0 rfl) B0) rfl) (fun a _ => qz4) ?_;intro x18 ok18;refine AP4 ?_ ?_
    ·refine zq11 ?_;intro x19 ok19;refine R4 ?_;refine zq2 ?_;intro b3 _;refine R1 ?_;refine AK5 rfl rfl rfl (o7 2 rfl rfl (A0 rfl) (A0 rfl) (i3 _) rfl M3 rfl) (fun a _ => qz4) ?_;intro _ _;refine R9 ?_
     (refine I5 [1] ((_, x19)) ?_ rfl n9 (N4 rfl (F5 (ys := _) 0 rfl rfl S9 M3 rfl)); exact ⟨by dsimp only; omega, ok19⟩)
    refine zq2 ?_;intro b3 _;refine R1 ?_;refine zq11 ?_;intro x19 ok19;refine R4 ?_;refine AK5 rfl rfl rfl (o7 2 rfl rfl (A0 rfl) (A0 rfl) (i3 _) rfl M3 rfl) (fun a _ => qz4) ?_;intro _ _;refine R9 ?_
    (refine I5 [1] ((_, x19)) ?_ rfl n9 (N4 rfl (F5 (ys := _) 0 rfl rfl S9 M3 rfl)); exact ⟨by dsimp only; omega, ok19⟩)
   refine zq2 ?_;intro b3 _;refine R1 ?_;refine J8 rfl rfl rfl (P3 [1] rfl call183 rfl (Ah0 _ _ hcode _ qz8) (A2 (A0 rfl) B0) rfl) (fun a _ => qz4) ?_;intro x18 ok18;refine R1 ?_;refine zq11 ?_;intro x19 ok19;refine R4 ?_;refine AK5 rfl rfl rfl (o7 1 rfl rfl (A0 rfl) (A0 rfl) (i3 _) rfl M3 rfl) (fun a _ => qz4) ?_;intro _ _;refine R9 ?_
   (refine I5 [2] ((_, x19)) ?_ rfl n9 (N4 rfl (F5 (ys := _) 0 rfl rfl S9 M3 rfl)); exact ⟨by dsimp only; omega, ok19⟩)
  refine zq2 ?_;intro b3 _;refine R1 ?_;refine J8 rfl rfl rfl (P3 [1] rfl call182 rfl (Au1 _ _ hcode _ qz8) (A2 (A0 rfl) B0) rfl) (fun a _ => qz4) ?_;intro x16 ok16;refine R1 ?_;refine J8 rfl rfl rfl (P3 [2] rfl call183 rfl (Ah0 _ _ hcode _ qz8) (A2 (A0 rfl) B0) rfl) (fun a _ => qz4) ?_;intro x18 ok18;refine R1 ?_;refine zq11 ?_;intro x19 ok19;refine R4 ?_;refine AK5 rfl rfl rfl (o7 1 rfl rfl (A0 rfl) (A0 rfl) (i3 _) rfl M3 rfl) (fun a _ => qz4) ?_;intro _ _;refine R9 ?_
  (refine I5 [2] ((_, x19)) ?_ rfl n9 (N4 rfl (F5 (ys := _) 0 rfl rfl S9 M3 rfl)); exact ⟨by dsimp only; omega, ok19⟩)
 refine zq2 ?_;intro b3 _;refine R1 ?_;refine J8 rfl rfl rfl (P3 [1] rfl call82 rfl (Q6 _ _ hcode _ _ qz8 qz8) (A2 (A0 rfl) (A2 J4 B0)) rfl) (fun a _ => qz4) ?_;intro x12 ok12;obtain ⟨cu, hcu⟩ := B3 (show x12.2.toNat < Ck5.length from (show x12.2.toNat < 4 by omega));have hco := Cv3 (C2 hcu);refine M0 rfl rfl rfl (fun ext => Ac0 rfl AN2 AI8 zA zA qz8 (O1 (f := fun l : List Str => [strs l]) hcu)) ?_;refine R2 ?_;refine J8 rfl rfl rfl (P3 [2] rfl call182 rfl (Au1 _ _ hcode _ qz8) (A2 (A0 rfl) B0) rfl) (fun a _ => qz4) ?_;intro x16 ok16;refine R1 ?_;refine J8 rfl rfl rfl (P3 [2] rfl call183 rfl (Ah0 _ _ hcode _ qz8) (A2 (A0 rfl) B0) rfl) (fun a _ => qz4) ?_;intro x18 ok18;refine R1 ?_;refine zq11 ?_;intro x19 ok19;refine R4 ?_;refine AK5 rfl rfl rfl (o7 1 rfl rfl (A0 rfl) (A0 rfl) (i3 _) rfl M3 rfl) (fun a _ => qz4) ?_;intro _ _;refine R9 ?_
 (refine I5 [2] ((_, x19)) ?_ rfl n9 (N4 rfl (F5 (ys := _) 0 rfl rfl S9 M3 rfl)); exact ⟨by dsimp only; omega, ok19⟩)
theorem Cv4 (b : Nat) (code : List Int) (hcode : AB3 code) (c : Z3) (hp : c.p ≤ 1000000) : L7 85 [AV.ptr b 0] [.box b 86 (Y0 code c)] (fun x : Z3 × D1 => x.1.p ≤ c.p + 2000 ∧ WI x.2 ∧ WQ x.2) (fun x => [.box b 86 (Y0 code x.1)]) (fun x => AV.agg x.2.cs) := by
 refine C6 func85 rfl ntmps85 rfl ?_;refine R3 ?_;intro b2;refine R4 ?_;refine zI [1] rfl call144 (BS9 _ _ hcode _ qz8) (A2 (A0 rfl) B0) rfl ?_;intro x7 ok7;refine R1 ?_;intro b3;refine zq60 ?_;refine AP4 ?_ ?_
 ·refine zq22 ?_;intro x12 ok12;refine AP4 ?_ ?_
  ·refine zq78 ?_;intro x13 ok13;refine R4 ?_;refine zq2 ?_;intro b4 _;refine R1 ?_;refine AK5 rfl rfl rfl (o7 4 rfl rfl (A0 rfl) (A0 rfl) (i3 _) rfl M3 rfl) (fun a _ => qz4) ?_;intro _ _;refine R9 ?_
   (refine I5 [2] ((x12.1, x13.1.1)) ?_ rfl n9 (N4 rfl (F5 (ys := _) 1 rfl rfl S9 M3 rfl)); exact ⟨by dsimp only; omega, ok13⟩)
  refine zq2 ?_;intro b4 _;refine R1 ?_;refine zq78 ?_;intro x13 ok13;refine R4 ?_;refine AK5 rfl rfl rfl (o7 3 rfl rfl (A0 rfl) (A0 rfl) (i3 _) rfl M3 rfl) (fun a _ => qz4) ?_;intro _ _;refine R9 ?_
  (refine I5 [2] ((x12.1, x13.1.1)) ?_ rfl n9 (N4 rfl (F5 (ys := _) 1 rfl rfl S9 M3 rfl)); exact ⟨by dsimp only; omega, ok13⟩)
 refine zq2 ?_;intro b4 _;refine R1 ?_;refine zq22 ?_;intro x12 ok12;refine R1 ?_;refine zq78 ?_;intro x13 ok13;refine R4 ?_;refine AK5 rfl rfl rfl (o7 2 rfl rfl (A0 rfl) (A0 rfl) (i3 _) rfl M3 rfl) (fun a _ => qz4) ?_;intro _ _;refine R9 ?_
 (refine I5 [3] ((x12.1, x13.1.1)) ?_ rfl n9 (N4 rfl (F5 (ys := _) 1 rfl rfl S9 M3 rfl)); exact ⟨by dsimp only; omega, ok13⟩)
theorem Ch7 (b : Nat) (code : List Int) (hcode : AB3 code) (c : Z3) (hp : c.p ≤ 1000000) : L7 85 [AV.ptr b 0] [.box b 86 (Y0 code c)] (fun x : Z3 × D1 × Value × Value => x.1.p ≤ c.p + 2000 ∧ WI x.2.1) (fun x => [.box b 86 (Y0 code x.1), .arr x.2.2.1 101 1 (x.2.1.Clocks.map U4.cs), .arr x.2.2.2 93 3 (x.2.1.Groups.map D0.cs)]) (fun x => AV.agg (WP x.2.1 x.2.2.1 x.2.2.2)) := by
 refine C6 func85 rfl ntmps85 rfl ?_;refine R3 ?_;intro b2;refine R4 ?_;refine zI [1] rfl call144 (BS9 _ _ hcode _ qz8) (A2 (A0 rfl) B0) rfl ?_;intro x7 ok7;refine R1 ?_;intro b3;refine zq60 ?_;refine AP4 ?_ ?_
 ·refine zq22 ?_;intro x12 ok12;refine AP4 ?_ ?_
  ·refine zq79 ?_;intro x13 ok13;refine R4 ?_;refine zq2 ?_;intro b4 _;refine R1 ?_;refine AK5 rfl rfl rfl (o7 6 rfl rfl (A0 rfl) (A0 rfl) (i3 _) rfl M3 rfl) (fun a _ => qz4) ?_;intro _ _;refine R9 ?_
   (refine I5 [2, 2, 2] ((x12.1, x13.1, x13.2.2.1)) ?_ rfl n9 (N4 rfl (F5 (ys := _) 1 rfl rfl S9 M3 rfl)); exact ⟨by dsimp only; omega, ok13⟩)
  refine zq2 ?_;intro b4 _;refine R1 ?_;refine zq79 ?_;intro x13 ok13;refine R4 ?_;refine AK5 rfl rfl rfl (o7 3 rfl rfl (A0 rfl) (A0 rfl) (i3 _) rfl M3 rfl) (fun a _ => qz4) ?_;intro _ _;refine R9 ?_
  (refine I5 [2, 3, 3] ((x12.1, x13.1, x13.2.2.1)) ?_ rfl n9 (N4 rfl (F5 (ys := _) 1 rfl rfl S9 M3 rfl)); exact ⟨by dsimp only; omega, ok13⟩)
 refine zq2 ?_;intro b4 _;refine R1 ?_;refine zq22 ?_;intro x12 ok12;refine R1 ?_;refine zq79 ?_;intro x13 ok13;refine R4 ?_;refine AK5 rfl rfl rfl (o7 2 rfl rfl (A0 rfl) (A0 rfl) (i3 _) rfl M3 rfl) (fun a _ => qz4) ?_;intro _ _;refine R9 ?_
 (refine I5 [3, 3, 3] ((x12.1, x13.1, x13.2.2.1)) ?_ rfl n9 (N4 rfl (F5 (ys := _) 1 rfl rfl S9 M3 rfl)); exact ⟨by dsimp only; omega, ok13⟩)
theorem CM8 (b : Nat) (code : List Int) (hcode : AB3 code) (c : Z3) (hp : c.p ≤ 1000000) : L7 40 [AV.ptr b 0] [.box b 86 (Y0 code c)] (fun x : Z3 × D1 × Value × Value => x.1.p ≤ c.p + 3000 ∧ WZ x.2.1) (fun x => [.box b 86 (Y0 code x.1), .arr x.2.2.1 101 1 (x.2.1.Clocks.map U4.cs), .arr x.2.2.2 93 3 (x.2.1.Groups.map D0.cs)]) (fun x => AV.agg (WP x.2.1 x.2.2.1 x.2.2.2)) := by
 refine C6 func40 rfl ntmps40 rfl ?_;refine R3 ?_;intro b2;refine R4 ?_;refine zI [1] rfl call85 (Ch7 _ _ hcode _ qz8) (A2 (A0 rfl) B0) rfl ?_;intro x5 ok5;have hw5 := ok5.2;have hn5 := hw5.n;have hc5 := hw5.clocks.1;have hz5 := wz_of hw5;obtain ⟨c0, hc0⟩ := B3 (show 0 < x5.2.1.Clocks.length by omega);obtain ⟨g0, hg0⟩ := B3 (show 0 < x5.2.1.Groups.length by omega);refine R1 ?_;intro b3;refine R6 ?_;refine zq21 ?_;intro x7 ok7;refine zC ?_ ?_
 ·intro h8;refine R3 ?_;refine zI [0] rfl call86 (AM0 _ _ hcode _ ([(-1), (100000), (100001)] : List Int) D4 qz8) (A2 (A0 rfl) (A2 (A0 rfl) B0)) rfl ?_;intro x12 ok12;refine R9 ?_
  (refine I5 [0, 1, 1] ((x12.1, { x5.2.1 with Now := x12.2 }, x5.2.2.1, x5.2.2.2)) ?_ rfl CE5 (N4 rfl (F5 (ys := _) 4 rfl rfl S9 M3 rfl)); first | exact ⟨by dsimp only; omega, Bq6 hz5 _⟩ | exact ⟨by dsimp only; omega, BP0 hz5 _ _⟩ | exact ⟨by dsimp only; omega, BZ8 hz5 hg0 _⟩ | exact ⟨by dsimp only; omega, BP1 hz5⟩ | exact ⟨by dsimp only; omega, hz5⟩)
 intro h8;refine zC ?_ ?_
 ·intro h14;refine R3 ?_;refine A1 rfl (I3 2 rfl T1 AC9 zA rfl J4 qz8 AF3) ?_;refine A1 rfl (L5 2 rfl underlying101 rfl F2 zA rfl rfl qz95) ?_;refine Z7 2 rfl rfl rfl zA J4 (W9 _ _) rfl F2 qz95 rfl ?_;refine R7 ?_
  (refine I5 [0, 1, 1] ((x7.1, { x5.2.1 with Clocks := x5.2.1.Clocks.set 0 ⟨6⟩ }, x5.2.2.1, x5.2.2.2)) ?_ rfl CE5 (N4 rfl (F5 (ys := _) 4 rfl rfl S9 M3 rfl)); first | exact ⟨by dsimp only; omega, Bq6 hz5 _⟩ | exact ⟨by dsimp only; omega, BP0 hz5 _ _⟩ | exact ⟨by dsimp only; omega, BZ8 hz5 hg0 _⟩ | exact ⟨by dsimp only; omega, BP1 hz5⟩ | exact ⟨by dsimp only; omega, hz5⟩)
 intro h14;refine zC ?_ ?_
 ·intro h20;refine R3 ?_;refine A1 rfl (I3 3 rfl H8 E7 zA rfl J4 qz8 AF3) ?_;refine A1 rfl (L5 3 rfl Z0 rfl F2 zA rfl rfl qz94) ?_;refine Z7 3 rfl rfl rfl zA J4 (W9 _ _) rfl F2 qz94 rfl ?_;refine R7 ?_
  (refine I5 [0, 1, 1] ((x7.1, { x5.2.1 with Groups := x5.2.1.Groups.set 0 { g0 with Lead := 3 } }, x5.2.2.1, x5.2.2.2)) ?_ rfl CE5 (N4 rfl (F5 (ys := _) 4 rfl rfl S9 M3 rfl)); first | exact ⟨by dsimp only; omega, Bq6 hz5 _⟩ | exact ⟨by dsimp only; omega, BP0 hz5 _ _⟩ | exact ⟨by dsimp only; omega, BZ8 hz5 hg0 _⟩ | exact ⟨by dsimp only; omega, BP1 hz5⟩ | exact ⟨by dsimp only; omega, hz5⟩)
 intro h20;refine zC ?_ ?_
 ·intro h26;refine R2 ?_;refine M4 1 rfl rfl rfl zA I2 (L2 rfl) rfl sizeOf27 rfl ?_;refine R7 ?_;refine AC8 4 5 1 rfl rfl (o6 0 rfl rfl N7) ?_
  (refine I5 [0, 1, 1] ((x7.1, { x5.2.1 with Locks := [] }, x5.2.2.1, x5.2.2.2)) ?_ rfl CE5 (N4 rfl (F5 (ys := _) 4 rfl rfl S9 M3 rfl)); first | exact ⟨by dsimp only; omega, Bq6 hz5 _⟩ | exact ⟨by dsimp only; omega, BP0 hz5 _ _⟩ | exact ⟨by dsimp only; omega, BZ8 hz5 hg0 _⟩ | exact ⟨by dsimp only; omega, BP1 hz5⟩ | exact ⟨by dsimp only; omega, hz5⟩)
 intro h26;refine R7 ?_
 (refine I5 [0, 1, 1] ((x7.1, x5.2.1, x5.2.2.1, x5.2.2.2)) ?_ rfl CE5 (N4 rfl (F5 (ys := _) 4 rfl rfl S9 M3 rfl)); first | exact ⟨by dsimp only; omega, Bq6 hz5 _⟩ | exact ⟨by dsimp only; omega, BP0 hz5 _ _⟩ | exact ⟨by dsimp only; omega, BZ8 hz5 hg0 _⟩ | exact ⟨by dsimp only; omega, BP1 hz5⟩ | exact ⟨by dsimp only; omega, hz5⟩)
theorem CD6 (b : Nat) (code : List Int) (hcode : AB3 code) (c : Z3) (hp : c.p ≤ 1000000) : L7 40 [AV.ptr b 0] [.box b 86 (Y0 code c)] (fun x : Z3 × D1 => x.1.p ≤ c.p + 3000 ∧ WZ x.2) (fun x => [.box b 86 (Y0 code x.1)]) (fun x => AV.agg x.2.cs) :=
  AP5 (fun x => (x.1, x.2.1)) (fun x => WR x.2.1 x.2.2.1 x.2.2.2) (fun x => [.box b 86 (Y0 code x.1)]) (CM8 b code hcode c hp) (fun _ h => h) (fun x _ => wp_lend _ _ _) (fun x _ => AO2 (l₁ := [_])) (fun _ _ => o6 0 rfl rfl N7) (fun x _ => BX6 ⟨rfl, rfl, AI4⟩ BN2)
theorem DD1 (rows : List A5) (l : List TOp) (hr : ∀ w ∈ rows, w.size ≤ 64) (hl : l.length ≤ 8) (ho : ∀ o ∈ l, OpD o) : L7 137 [AV.list 3 (rows.map A5.cs), AV.list 4 (l.map TOp.cs)] [] (fun x : (List F9 × Int) × Value => At1 l x.1.1) (fun x => [.arr x.2 71 3 (x.1.1.map F9.cs)]) (fun x => AV.tup [AV.is x.2, AV.list 3 ((Q2 l x.1.1).2.2.map A5.cs), AV.bool ((Q2 l x.1.1).1 == 3)]) := by
 have hso : ∀ o ∈ l, Aj0 64 o := fun o h => Cd5 (ho o h);have hso2 : ∀ o ∈ l, Aj0 1000 o := fun o h => ⟨L4 (hso o h).size D4, (hso o h).by', (hso o h).key⟩;refine C6 func137 rfl ntmps137 rfl ?_;refine zq48 ?_;refine zq7 ?_;refine R4 ?_;refine V0 71 3 rfl rfl rfl rfl I2 ?_;intro v7;refine R2 ?_;refine zL [0] ?_;refine J5 [(0, _), (1, _)] _ (fun (got : List F9) (v : Value) => At1 l got) (fun got v => [.arr v 71 3 (got.map F9.cs)]) (fun got v => [(7, AV.is v)]) (fun got v => l.length - got.length) ([]) (v7) ?_ (K5 B8 A4) ?_
 ·exact At1.nil l
 intro got v hinv;have hgl := hinv.len;refine R5 ?_;refine zI [0] rfl call124 (BW7 l v got qz8 hso2 (fun g hg => L4 (hinv.size g hg) D4)) F4 rfl ?_;intro x14 ok14;refine zC ?_ ?_
 ·intro h19;refine R11 ?_;exact I5 [0] (((got, 0), v)) (hinv) rfl B8 (j9 rfl D4 AW4)
 intro h19;have hask : (Q2 l got).1 = 1 := Br5;have hrn := (ran (got := got) (n := 64) D4 hso).ask hask;obtain ⟨⟨o, hom, hok⟩, hnk⟩ := hrn;have hkl : (Q2 l got).2.1.length ≤ 64 := (by rw [← hok]; have h9 := (hso o hom).key; omega);have hts := DZ9 (rows := rows) hr hkl;have hnx : At1 l (got ++ [BX1 rows (Q2 l got).2.1]) := hinv.snoc (by rw [hts.2, ← hok]; exact m1.2 ⟨o, hom, rfl⟩) (fun x hx => by rw [hts.2]; exact hnk x hx) qz8;refine R5 ?_;refine zF rfl call178 (DC3 rows _) F4 ?_;refine R1 ?_;refine G1 (by' := 40) 0 rfl rfl rfl rfl I8 type71 rfl rfl rfl rfl rfl rfl zA zA rfl Aa6 ?_;intro v29_1;refine R2 ?_;refine Ap7 ?_;refine G0 got v (got ++ [BX1 rows (Q2 l got).2.1]) (v29_1) ?_ ?_ (Le.trans (B4 [0] rfl) (K5 Ar4 A4))
 ·exact hnx
 (rw [G3]; simp; have h9 := hnx.len; rw [G3] at h9; simp at h9; omega)
theorem Ch8 (w : D1) (hw : WI w) : L7 72 [AV.agg w.cs] [] (fun _ : Value => True) (fun v => [.arr v 60 4 ((w.Groups.map AV9).map E9.cs)]) (fun v => AV.is v) := by
 have hng := hw.n;refine C6 func72 rfl ntmps72 rfl ?_;refine R3 ?_;intro b1;refine zq7 ?_;refine R3 ?_;refine V0 60 4 rfl rfl rfl rfl I2 ?_;intro v3;refine R10 ?_;refine zL [0] ?_;refine J5 [(2, _), (7, _), (8, _)] _ (fun (i : Nat) (v : Value) => i ≤ w.Groups.length) (fun i v => [.arr v 60 4 (((w.Groups.take i).map AV9).map E9.cs)]) (fun i v => [(3, AV.is v), (9, AV.int i)]) (fun i v => w.Groups.length - i) (0) (v3) ?_ (K5 B8 A4) ?_
 ·exact E2 _
 intro i v hinv;refine zK ?_ ?_
 ·intro h10 k10;have hlt : i < w.Groups.length := Ab9;obtain ⟨g, hg⟩ := B3 hlt;have hgg := (hw.groups g (C2 hg)).good;refine R5 ?_;refine zq193 ?_;intro b5;refine R5 ?_;refine zF rfl call122 (BO6 g hgg) I4 ?_;refine R1 ?_;refine G1 (by' := 80) 1 rfl rfl rfl rfl AC6 type60 rfl rfl rfl rfl rfl rfl zA zA rfl qz165 ?_;intro v17_1;refine R6 ?_;refine G0 i v (i + 1) (v17_1) ?_ ?_ (Le.trans (B4 [0, 0] rfl) (C7 1 (by (rw [W1, hg, X8, X8]; rfl)) A4))
  ·exact qz8
  omega
 intro h10 k10;have hge : w.Groups.length ≤ i := Ab9;rw [T4 hge];exact zq82
theorem CM9 (w : D1) (hw : WI w) : E1 72 [AV.agg w.cs] (AV.list 4 ((w.Groups.map AV9).map E9.cs)) :=
  N1 (Ch8 w hw) fun v _ => K3 (X9.2 rfl) F6
theorem Cv5 (ss : List E9) (n : Int) (hl : ss.length ≤ 10) (hs : ∀ s ∈ ss, s.Told.length ≤ 100) : L7 73 [AV.list 4 (ss.map E9.cs), AV.int n] [] (fun x : (List G7 × Bool) × Value => x.1.1.length ≤ 10) (fun x => [.arr x.2 62 3 (x.1.1.map G7.cs)]) (fun x => AV.tup [AV.is x.2, AV.bool x.1.2]) := by
 refine C6 func73 rfl ntmps73 rfl ?_;refine zq48 ?_;refine R4 ?_;refine V0 62 3 rfl rfl rfl rfl I2 ?_;intro v6;refine R9 ?_;refine zL [0] ?_;refine V8 [(1, _), (4, _), (5, _), (13, _), (14, _)] _ (fun (i : Nat) (tl : List G7) (v : Value) => i ≤ ss.length ∧ tl.length ≤ i) (fun i tl v => [.arr v 62 3 (tl.map G7.cs)]) (fun i tl v => [(6, AV.is v), (15, AV.int i)]) (fun i tl v => ss.length - i) (0) ([]) (v6) ?_ (K5 B8 A4) ?_
 ·exact ⟨E2 _, N2 _⟩
 intro i tl v hinv;refine zK ?_ ?_
 ·intro h16 k16;have hlt : i < ss.length := BI0;obtain ⟨s, hsx⟩ := B3 hlt;have hst := hs s (C2 hsx);refine R5 ?_;refine A1 rfl (zX hsx) ?_;refine R2 ?_;intro b8;refine R6 ?_;refine zF rfl call123 (AM1 s n qz8) F4 ?_;refine R4 ?_;intro b9;refine zC ?_ ?_
  ·intro h25;refine R4 ?_;refine G1 (by' := 24) 2 rfl rfl rfl rfl J2 type62 rfl rfl rfl rfl rfl rfl zA zA rfl Aa6 ?_;intro v29_1;refine R6 ?_;refine P6 i tl v (i + 1) (tl ++ [(AG5 s.Told n).1]) (v29_1) ?_ ?_ (Le.trans (B4 [0, 0, 0] rfl) (C7 2 BI2 A4))
   ·exact ⟨by omega, by rw [G3]; simp; omega⟩
   omega
  intro h25;refine R5 ?_;refine P6 i tl v (i + 1) (tl) (v) ?_ ?_ (Le.trans (B4 [0, 0, 0] rfl) (C7 2 BI2 A4))
  ·exact ⟨by omega, by omega⟩
  omega
 intro h16 k16;refine R9 ?_;refine zL [0] ?_;refine F8 [(6, _), (31, _), (32, _)] _ (fun (j : Nat) => j ≤ tl.length) (fun j => [.arr v 62 3 (tl.map G7.cs)]) (fun j => [(33, AV.int j)]) (fun j => tl.length - j) (0) ?_ (K5 B8 A4) ?_
 ·exact E2 _
 intro j hinv;refine zK ?_ ?_
 ·intro h34 k34;have hlt1 : j < tl.length := Br8;obtain ⟨x, hx⟩ := B3 hlt1;obtain ⟨x0, hx0⟩ := B3 (show 0 < tl.length by omega);refine R5 ?_;refine A1 rfl (I3 0 rfl J2 O0 zA rfl zA qz8 AF3) ?_;refine A1 rfl (w5 0 rfl zA rfl AQ0 O0 qz25 D4) ?_;refine R1 ?_;intro b12;refine R6 ?_;refine B7 rfl rfl (I3 1 rfl J2 O0 zA rfl J4 qz8 AF3) ?_;refine B7 rfl rfl (w5 1 rfl zA rfl AQ0 O0 qz25 D4) ?_;refine B7 rfl rfl (BX4 rfl underlying62 E6 E6 zA zA (AE0 E6 Q4 rfl rfl (BL6 m7) (AE0 E6 AE5 rfl rfl (BA6 W4) (AE0 E6 Q4 rfl rfl (BL6 m7) BL5)))) ?_;refine zC ?_ ?_
  ·intro h41;refine zq104 ?_;refine X3 62 3 ?_;exact I5 [0] ((([], false), E8)) ((by first | exact E2 _ | (show tl.length ≤ 10; omega))) rfl B8 (j9 rfl D4 (I1 (A8 rfl B8) (I1 (A8 rfl B8) z8)))
  intro h41;refine R5 ?_;refine G5 j (j + 1) ?_ ?_ (Le.trans (B4 [0, 0] rfl) (C7 1 B8 A4))
  ·exact qz8
  omega
 intro h34 k34;refine R8 ?_;exact I5 [0] (((tl, true), v)) ((by first | exact E2 _ | (show tl.length ≤ 10; omega))) rfl B8 (j9 rfl D4 (I1 (A8 rfl B8) (I1 (A8 rfl B8) z8)))
theorem Ch9 (ss : List E9) (n : Int) (hl : ss.length ≤ 10) (hs : ∀ s ∈ ss, s.Told.length ≤ 100) : L7 73 [AV.list 4 (ss.map E9.cs), AV.int n] [] (fun x : List G7 × Bool => x.1.length ≤ 10) (fun _ => []) (fun x => AV.tup [AV.list 3 (x.1.map G7.cs), AV.bool x.2]) :=
  AP5 (fun x => x.1) (fun x => [.arr x.2 62 3 (x.1.1.map G7.cs)]) (fun _ => []) (Cv5 ss n hl hs) (fun _ h => h) (fun x _ => AV2 (C1 (K3 (X9.2 rfl) F6) (C1 E4 Y2))) (fun x _ => by rw [S0]) (fun _ _ => N7) (fun x _ => BN2)
theorem CN0 (cuts : List Str) (t : B5) (hb : SetB t) : E1 74 [strs cuts, AV.agg t.cs] (AV.tup [strs (y8 t.Got), AV.list 3 ((Q2 t.Ops t.Got).2.2.map A5.cs), ints (AW3 cuts t), AV.bool (Ar2 t)]) := by
 have hgl := hb.got.1;have hrl := BK2 t.Got;have hst := ran (got := t.Got) (n := 1000) D4 hb.ops;have hwl : (Q2 t.Ops t.Got).2.2.length ≤ 1000 := L4 hst.len (by have := hb.len; omega);obtain ⟨S, hS⟩ : ∃ S, Q2 t.Ops t.Got = S := ⟨_, rfl⟩;have hstep := DC2 t.Ops t.Got hb.len hb.ops hb.got.2;have hbq : Ar2 t = ((Q2 t.Ops t.Got).1 == 3 && decide (0 < ((((y8 t.Got).map fun t => [AV.str t]).length : Nat) : Int) + ((((Q2 t.Ops t.Got).2.2.map A5.cs).length : Nat) : Int))) := by unfold Ar2; simp only [A7]
 rw [hbq];unfold AW3;rw [hS] at hstep hwl ⊢;have hkl := BS0 (y8 t.Got ++ T8 S.2.2);rw [G3, show (T8 S.2.2).length = S.2.2.length from A7 ..] at hkl;refine B2 func74 rfl ntmps74 rfl ?_;refine R3 ?_;intro b3;refine zq55 ?_;refine zq35 ?_;refine zq55 ?_;refine R8 ?_;refine zF rfl call124 (hstep) F4 ?_;refine R10 ?_;refine V0 9 1 rfl rfl rfl rfl I2 ?_;intro v11;refine R10 ?_;refine zL [0] ?_;refine J5 [(0, _), (4, _), (5, _), (6, _), (7, _), (8, _), (10, _), (24, _), (25, _)] _ (fun (i : Nat) (v : Value) => i ≤ t.Got.length) (fun i v => [.arr v 9 1 ((y8 (t.Got.take i)).map fun t => [AV.str t])]) (fun i v => [(11, AV.is v), (26, AV.int i)]) (fun i v => t.Got.length - i) (0) (v11) ?_ (K5 B8 A4) ?_
 ·exact E2 _
 intro i v hinv;refine zK ?_ ?_
 ·intro h27 k27;have hlt : i < t.Got.length := (by simpa using h27);obtain ⟨g, hg⟩ := B3 hlt;have hrs := CL3 (t.Got.take i);have hrn := BK2 (t.Got.take i);rw [H4] at hrn;refine R5 ?_;refine zq193 ?_;intro b13;refine R6 ?_;refine zI [1] rfl call125 (Ag7 v (y8 (t.Got.take i)) g.Key hrs qz8) F4 rfl ?_;intro x33 ok33;refine R6 ?_;refine G0 i v (i + 1) (x33) ?_ ?_ (Le.trans (B4 [1, 0] rfl) (C7 1 (by (rw [CL4 hg]; rfl)) A4))
  ·exact qz8
  omega
 intro h27 k27;have hge : t.Got.length ≤ i := (by simpa using h27);rw [T4 hge];refine R2 ?_;refine AWP.le (AL9 [0] 11 rfl rfl (K3 (C2 (i := 0) rfl) F6) AU4) ?_;refine zq137 ?_;exact Y9 rfl D4 (I1 (A8 rfl B8) AW4)
theorem Da2 (w : D1) (hw : WI w) : L7 26 [AV.agg w.cs] [] (fun x : List E0 × Value => x.1.length ≤ 10 ∧ AN0 x.1) (fun x => [.arr x.2 45 8 (x.1.map E0.cs)]) (fun x => AV.is x.2) := by
 have hng := hw.n;have htl := hw.txns.1;have hll := hw.looks.1;have hsl : (w.Groups.map AV9).length ≤ 10 := by rw [A7]; omega
 have hst : ∀ s ∈ w.Groups.map AV9, s.Told.length ≤ 100 := fun s hs => by
  obtain ⟨g, hg, rfl⟩ := m1.1 hs;exact L4 (Av3 (hw.groups g hg).good).tlen D4
 refine C6 func26 rfl ntmps26 rfl ?_;refine R3 ?_;intro b1;refine zq7 ?_;refine R3 ?_;refine V0 45 8 rfl rfl rfl rfl I2 ?_;intro v3;refine R4 ?_;refine zF rfl call72 (CM9 w hw) I4 ?_;refine R11 ?_;refine zL [0] ?_;refine V8 [(1, _), (2, _), (4, _), (19, _), (20, _)] _ (fun (i : Nat) (h : List E0) (v : Value) => (i ≤ w.Txns.length ∧ h.length ≤ i) ∧ AN0 h) (fun i h v => [.arr v 45 8 (h.map E0.cs)]) (fun i h v => [(3, AV.is v), (21, AV.int i)]) (fun i h v => w.Txns.length - i) (0) ([]) (v3) ?_ (K5 B8 A4) ?_
 ·exact ⟨⟨E2 _, N2 _⟩, DP9⟩
 intro i h v hinv;refine zK ?_ ?_
 ·intro h22 k22;have hlt : i < w.Txns.length := BI1;obtain ⟨t, ht⟩ := B3 hlt;have htk := hw.txns.2 t (C2 ht);have hgl := htk.got.1;refine R6 ?_;refine zq192 ?_;intro b6;refine zC ?_ ?_
  ·intro h28;refine R5 ?_;refine P6 i h v (i + 1) (h) (v) ?_ ?_ (Le.trans (B4 [0, 0] rfl) (C7 1 BI2 A4))
   ·exact ⟨⟨by omega, by omega⟩, hinv.2⟩
   omega
  intro h28;refine R11 ?_;intro b7;refine R3 ?_;refine AWP.le (AG9 0 6 3 rfl rfl N7) ?_;refine AWP.le (AG9 0 7 3 rfl rfl N7) ?_;refine R4 ?_;refine zI [] rfl call73 (Ch9 (w.Groups.map AV9) ((i : Int) + 1) hsl hst) F4 rfl ?_;intro x40 ok40;obtain ⟨td, htd⟩ := Ai2 x40.1 0;refine R14 ?_;refine J6 rfl (fun hc => C8 rfl J2 O0 (A9 rfl hc) J4 (htd (by simp at hc; omega)) qz6) ?_;refine zC ?_ ?_
  ·intro h51;have htd1 := htd (by simp at h51; have h9 := h51.1; omega);refine R5 ?_;refine zF rfl call74 (CN0 w.Cuts t htk.sb) F4 ?_;refine R18 ?_;refine A1 rfl (C8 rfl J2 O0 zA J4 htd1 qz3) ?_;refine R7 ?_;refine P4 rfl rfl rfl rfl I8 S2 ?_;intro v67;refine R2 ?_;refine zq43 ?_;intro v70_1;refine R1 ?_;refine O4 0 rfl fun one_v70_1 => ?_;refine zq28 ?_;refine G1 (by' := 88) 2 rfl rfl rfl rfl N6 type45 rfl rfl rfl rfl rfl rfl zA zA rfl Aa6 ?_;intro v77_2;refine R6 ?_;refine P6 i h v (i + 1) (h ++ [⟨(i : Int) + 1, t.Begin, t.End, true, false, td.Time, t.Got, (Q2 t.Ops t.Got).2.2⟩]) (v77_2) ?_ ?_ (Le.trans (B4 [0, 0, 0] rfl) (C7 2 BI2 A4))
   ·exact ⟨⟨by omega, by rw [G3]; simp; omega⟩, hinv.2.snoc (Bg4 htk.ops.2) (Ch6 htk)⟩
   omega
  intro h51;refine R5 ?_;refine G1 (by' := 88) 2 rfl rfl rfl rfl N6 type45 rfl rfl rfl rfl rfl rfl zA zA rfl Aa6 ?_;intro v77_3;refine R6 ?_;refine P6 i h v (i + 1) (h ++ [⟨(i : Int) + 1, t.Begin, t.End, false, false, 0, [], []⟩]) (v77_3) ?_ ?_ (Le.trans (B4 [0, 0, 0] rfl) (C7 2 BI2 A4))
  ·exact ⟨⟨by omega, by rw [G3]; simp; omega⟩, hinv.2.snoc (fun w9 hw9 => by cases hw9) (show (0 : Nat) ≤ 5000 by decide)⟩
  omega
 intro h22 k22;refine R10 ?_;refine zL [0] ?_;refine V8 [(2, _), (80, _), (81, _)] _ (fun (j : Nat) (h1 : List E0) (u : Value) => (j ≤ w.Looks.length ∧ h1.length ≤ 6 + j) ∧ AN0 h1) (fun j h1 u => [.arr u 45 8 (h1.map E0.cs)]) (fun j h1 u => [(3, AV.is u), (82, AV.int j)]) (fun j h1 u => w.Looks.length - j) (0) (h) (v) ?_ (K5 B8 A4) ?_
 ·exact ⟨⟨E2 _, by omega⟩, hinv.2⟩
 intro j h1 u hinv;refine zK ?_ ?_
 ·intro h83 k83;have hlt1 : j < w.Looks.length := (by simpa using h83);obtain ⟨q, hq⟩ := B3 hlt1;have hqk := hw.looks.2 q (C2 hq);have hqg := hqk.got.1;have hqn := hqk.keys.1;refine R6 ?_;refine A1 rfl (zX hq) ?_;refine R2 ?_;intro b15;refine zC ?_ ?_
  ·intro h98;refine zq44 ?_;intro v108 _;refine S8 rfl rfl rfl (AZ2 [3] (fun _ => rfl) (fun _ => K3 (C2 (i := 0) rfl) F6) (fun _ => N7) (L9 (by' := 40) 3 rfl I8 type71 rfl rfl rfl rfl rfl rfl zA zA rfl qz3)) (fun a _ => qz4) ?_;intro v111_4 _;refine R2 ?_;refine S8 rfl rfl rfl (L9 (by' := 88) 1 rfl N6 type45 rfl rfl rfl rfl rfl rfl zA zA rfl Aa6) (fun a _ => qz4) ?_;intro v114_5 _;refine R3 ?_;refine AWP.le (AV3 3 1 (.arr v114_5 45 8 (_)) rfl (⟨rfl, rfl, rfl, by first | exact Av9 (h := h1) (d := ⟨50 + (j : Int), q.Begin, q.End, true, true, q.Time, q.Got, []⟩) (C1 E4 (C1 E4 (C1 E4 (C1 E4 (C1 E4 (C1 E4 (C1 E4 (C1 Au8 Y2)))))))) | exact F6⟩) N7) ?_;refine R4 ?_;refine P6 j h1 u (j + 1) (h1 ++ [⟨50 + (j : Int), q.Begin, q.End, true, true, q.Time, q.Got, []⟩]) (v114_5) ?_ ?_ (Le.trans (B4 [0, 0] rfl) (C7 1 B8 A4))
   ·exact ⟨⟨by omega, by rw [G3]; simp; omega⟩, hinv.2.snoc (fun w9 hw9 => by cases hw9) (CV1 hqk)⟩
   omega
  intro h98;refine R1 ?_;refine AWP.le (AV3 3 1 (.arr u 45 8 (_)) rfl (⟨rfl, rfl, rfl, by first | exact Av9 (h := h1) (d := ⟨50 + (j : Int), q.Begin, q.End, true, true, q.Time, q.Got, []⟩) (C1 E4 (C1 E4 (C1 E4 (C1 E4 (C1 E4 (C1 E4 (C1 E4 (C1 Au8 Y2)))))))) | exact F6⟩) N7) ?_;refine R4 ?_;refine P6 j h1 u (j + 1) (h1) (u) ?_ ?_ (Le.trans (B4 [0, 0] rfl) (C7 1 B8 A4))
  ·exact ⟨⟨by omega, by omega⟩, hinv.2⟩
  omega
 intro h83 k83;refine R7 ?_;exact I5 [0] ((h1, u)) (⟨by (show h1.length ≤ 10; omega), hinv.2⟩) rfl B8 M9
def E0.ocs (d : E0) (y : Value) : List AV := [AV.int d.Txn, AV.int d.Begin, AV.int d.End, AV.bool d.Yes, AV.bool d.Look, AV.int d.Time, AV.is y, AV.list 3 (d.Writes.map A5.cs)]
def E0.ow (d : E0) (y : Value) : List Go.AV.Own := [.arr y 71 3 (d.Got.map F9.cs)]
theorem E0.lcM {own : List Go.AV.Own} (d : E0) (y : Value) (h : ∀ o ∈ E0.ow d y, o ∈ own) : AH5 own (E0.ocs d y) d.cs := C1 E4 (C1 E4 (C1 E4 (C1 E4 (C1 E4 (C1 E4 (C1 (K3 (h _ (C2 (i := 0) rfl)) F6) AI4))))))
theorem Bz0 {d : E0} {g : F9} {v : Str} (h : d.Got[0]? = some g) : (Cw6 d v).Got.map F9.cs = (d.Got.map F9.cs).set 0 [AV.str g.Key, AV.str v, AV.bool g.There] := by
  obtain ⟨a, b, c, y, k, t, got, ws⟩ := d
  cases got with
  | nil => simp at h
  | cons x r => simp at h; subst h; rfl
theorem lend_l9 {own : List Go.AV.Own} {a b c : List (List AV)} (e : a = b) (h : BE4 own b c) : BE4 own a c := e ▸ h
theorem Ci0 (rows ws : List A5) (h : CP4 rows) (hw : ws.length ≤ 1000) : E1 139 [AV.list 3 (rows.map A5.cs), AV.list 3 (ws.map A5.cs)] (AV.list 3 ((Br3 rows ws).map A5.cs)) := by
  have h1 := CT0 rows ws (by have := h.2; omega) qz8;rw [CY4 h.1.1] at h1;exact h1
theorem CV4 (b : Nat) (code : List Int) (hcode : AB3 code) (c : Z3) (hp : c.p ≤ 900000) : L7 81 [AV.ptr b 0] [.box b 86 (Y0 code c)] (fun x : Z3 × List E0 × Value => x.1.p ≤ c.p + 3000 ∧ x.2.1.length ≤ 10 ∧ AN0 x.2.1) (fun x => [.box b 86 (Y0 code x.1), .arr x.2.2 45 8 (x.2.1.map E0.cs)]) (fun x => AV.is x.2.2) := by
 refine C6 func81 rfl ntmps81 rfl ?_;refine zq48 ?_;refine R5 ?_;refine zq75 ?_;intro x13 ok13;refine zC ?_ ?_
 ·intro h13;refine R3 ?_;refine zI [0] rfl call85 (Cv4 _ _ hcode _ qz8) (A2 (A0 rfl) B0) rfl ?_;intro x15 ok15;refine R1 ?_;intro b3;refine R5 ?_;refine zI [] rfl call26 (Da2 x15.2 ok15.2.1) I4 rfl ?_;intro x17 ok17;refine R3 ?_;exact I5 [2, 0] ((x15.1, x17.1, x17.2)) (qz90) rfl B8 M9
 intro h13;refine R3 ?_;refine V0 45 8 rfl rfl rfl rfl I2 ?_;intro v4;refine R3 ?_;refine zq35 ?_;refine R5 ?_;refine zq21 ?_;intro x19 ok19;obtain ⟨n0, hn0⟩ : ∃ n0 : Nat, x19.2 = n0 := ⟨x19.2.toNat, by omega⟩;refine R4 ?_;refine zL [0, 0] ?_;refine Bv8 [(0, _), (2, _)] [] (fun (n : Nat) (S : Z3 × List A5) (h : List E0) (Y : List Value) (v : Value) => ((n + h.length = 1 + n0 ∧ n0 ≤ 4) ∧ S.1.p ≤ c.p + 10 + 150 * h.length) ∧ Y.length = h.length ∧ BQ0 h ∧ CP4 S.2 ∧ S.2.length ≤ 4 * h.length) (fun n S h Y v => [.box b 86 (Y0 code S.1), .arr v 45 8 (J9 E0.ocs h Y)] ++ (nin E0.ow h Y)) (fun n S h Y v => [(4, AV.is v), (5, AV.list 3 (S.2.map A5.cs)), (6, AV.int n)]) (fun n S h Y v => n) (1 + n0) ((x19.1, [])) ([]) ([]) (v4) ?_ (K5 B8 ⟨rfl, rfl, E5 (fun z => some (AV.int z)) qz8, rfl, rfl, trivial⟩) ?_
 ·exact ⟨⟨⟨by simp, by omega⟩, by simp; omega⟩, rfl, ⟨fun d hd => (by cases hd), fun d hd => (by cases hd)⟩, ⟨⟨rfl, fun w hw => (by cases hw)⟩, E2 _⟩, E2 _⟩
 intro n S h Y v hinv;refine G6 (S0 _) ?_;refine zK ?_ ?_
 ·intro h22 k22;have hrw := hinv.2.2.2.1;have hhl : h.length ≤ 5 := qz8;have hYl := hinv.2.1;have hnl := U3 (ocs := E0.ocs) hYl;refine R9 ?_;refine zq144 ?_;intro x29 ok29;refine R1 ?_;refine zq144 ?_;intro x31 ok31;refine R3 ?_;intro b7;refine R3 ?_;refine AWP.le (AG9 0 7 3 rfl rfl (o6 1 rfl rfl N7)) ?_;refine R3 ?_;refine zI [1] rfl call138 (By7 _ _ hcode _ qz8) (A2 (A0 rfl) B0) rfl ?_;intro x37 ok37;refine BD6 (AL9 [1] 37 rfl rfl (K3 (C2 (i := 0) rfl) F6) (o6 0 rfl rfl N7)) ?_;refine zI [] rfl call137 (DD1 S.2 x37.2.1 hrw.1.2 qz8 ok37.2.2) F4 rfl ?_;intro x38 ok38;have har := Da1 (got := x38.1.1) ok37.2.1.2 ok37.2.2;refine R12 ?_;refine O4 0 rfl fun one_x38_2 => ?_;refine M4 2 rfl rfl rfl zA zA (L2 one_x38_2) rfl S3 rfl ?_;refine R6 ?_;refine Bl6 [(0, _), (2, _), (4, _), (6, _), (7, _), (8, _), (9, _), (10, _), (21, _), (22, _), (25, _), (26, _), (27, _), (28, _), (29, _), (30, _), (31, _), (32, _), (33, _), (34, _), (35, _), (36, _), (37, _), (38, _), (39, _), (40, _), (41, _), (42, _), (43, _), (44, _)] A4 (fun (ws : List A5) (r2 : List A5) => WsD ws ∧ CP4 r2 ∧ r2.length ≤ S.2.length + 4) (fun (ws : List A5) (r2 : List A5) => [.box b 86 (Y0 code x37.1), .box b7 45 [AV.int (((J9 E0.ocs h Y).length : Int) + 1), AV.int x29.2, AV.int (-1), AV.bool true, AV.bool false, AV.int (1 + x31.2), AV.is x38.2, AV.list 3 (ws.map A5.cs)], .arr v 45 8 (J9 E0.ocs h Y), .arr x38.2 71 3 (x38.1.1.map F9.cs)] ++ (nin E0.ow h Y)) (fun (ws : List A5) (r2 : List A5) => [(5, AV.list 3 (r2.map A5.cs))]) ?_ ?_
  ·skip
   refine zC ?_ ?_
   ·intro h44;refine R9 ?_;refine zF rfl call139 (Ci0 S.2 (Q2 x37.2.1 x38.1.1).2.2 hrw qz8) F4 ?_;refine R2 ?_;exact ⟨(Q2 x37.2.1 x38.1.1).2.2, Br3 S.2 (Q2 x37.2.1 x38.1.1).2.2, qz180, Le.trans (B4 [1, 1, 1, 0] rfl) (C7 0 B8 A4)⟩
   intro h44;refine R1 ?_;exact ⟨[], S.2, qz180, Le.trans (B4 [1, 1, 1, 0] rfl) (C7 0 B8 A4)⟩
  intro ws r2 hIC44;refine R4 ?_;refine zq75 ?_;intro x51 ok51;refine R1 ?_;refine Bl6 [(0, _), (2, _), (4, _), (5, _), (6, _), (7, _), (8, _), (9, _), (10, _), (21, _), (22, _), (25, _), (26, _), (27, _), (28, _), (29, _), (30, _), (31, _), (32, _), (33, _), (34, _), (35, _), (36, _), (37, _), (38, _), (39, _), (40, _), (41, _), (42, _), (43, _), (44, _), (50, _), (51, _)] A4 (fun (lk : Bool) (w2 : List A5) => WsD w2) (fun (lk : Bool) (w2 : List A5) => [.box b 86 (Y0 code x51.1), .box b7 45 [AV.int (((J9 E0.ocs h Y).length : Int) + 1), AV.int x29.2, AV.int (-1), AV.bool true, AV.bool lk, AV.int (1 + x31.2), AV.is x38.2, AV.list 3 (w2.map A5.cs)], .arr v 45 8 (J9 E0.ocs h Y), .arr x38.2 71 3 (x38.1.1.map F9.cs)] ++ (nin E0.ow h Y)) (fun (lk : Bool) (w2 : List A5) => []) ?_ ?_
  ·skip
   refine zC ?_ ?_
   ·intro h51;refine R7 ?_;refine M4 1 rfl rfl rfl zA (X1 (sz := 3)) (m4 _ _) rfl Ad6 rfl ?_;refine R1 ?_;exact ⟨true, [], (by first | exact hIC44.1 | exact CV2), Le.trans (B4 [0, 0, 0, 0] rfl) (C7 0 B8 A4)⟩
   intro h51;refine R1 ?_;exact ⟨false, ws, (by first | exact hIC44.1 | exact CV2), Le.trans (B4 [0, 0, 0, 0] rfl) (C7 0 B8 A4)⟩
  intro lk w2 hIC51;refine R4 ?_;refine zq75 ?_;intro x55 ok55;refine R2 ?_;refine Bl6 [(0, _), (2, _), (4, _), (5, _), (6, _), (7, _), (8, _), (9, _), (10, _), (21, _), (22, _), (25, _), (26, _), (27, _), (28, _), (29, _), (30, _), (31, _), (32, _), (33, _), (34, _), (35, _), (36, _), (37, _), (38, _), (39, _), (40, _), (41, _), (42, _), (43, _), (44, _), (50, _), (51, _), (54, _), (55, _), (56, _)] A4 (fun (cu : Z3) (e : Int) => cu.p ≤ x55.1.p + 2) (fun (cu : Z3) (e : Int) => [.box b 86 (Y0 code cu), .box b7 45 [AV.int (((J9 E0.ocs h Y).length : Int) + 1), AV.int x29.2, AV.int (e), AV.bool true, AV.bool lk, AV.int (1 + x31.2), AV.is x38.2, AV.list 3 (w2.map A5.cs)], .arr v 45 8 (J9 E0.ocs h Y), .arr x38.2 71 3 (x38.1.1.map F9.cs)] ++ (nin E0.ow h Y)) (fun (cu : Z3) (e : Int) => []) ?_ ?_
  ·skip
   refine zC ?_ ?_
   ·intro h56;refine zL [1, 0] ?_;refine O5 _ [(0, false), (1, false), (2, false), (3, false), (4, true)] E6 E6 rfl (S1 1) ?_;refine R4 ?_;refine S8 rfl rfl rfl (AC5 3 (P3 [1] rfl call82 rfl (Q6 _ _ hcode _ _ qz8 qz8) (A2 (A0 rfl) (A2 J4 B0)) rfl)) (fun a _ => qz4) ?_;intro x61 ok61;refine R5 ?_;exact ⟨x61.1, x29.2 + 1 + x61.2, (by first | exact ok61.1 | exact Nat.le_add_right _ _), Le.trans (B4 [3, 0, 0, 0] rfl) (C7 0 B8 A4)⟩
   intro h56;refine R1 ?_;exact ⟨x55.1, -1, (by first | exact ok61.1 | exact Nat.le_add_right _ _), Le.trans (B4 [0, 0, 0, 0] rfl) (C7 0 B8 A4)⟩
  intro cu e hIC56;refine R4 ?_;refine G1 (by' := 88) 2 rfl rfl rfl rfl N6 type45 rfl rfl rfl rfl rfl rfl zA zA rfl (by rw [U3 hYl]; simp only [W7]; omega) ?_;intro v67_1;refine R2 ?_;refine zL [0, 0, 0, 0] ?_;refine AWP.le (S6 3 (t := nin E0.ow (h ++ [(E0.mk (((J9 E0.ocs h Y).length : Int) + 1) x29.2 e true lk (1 + x31.2) x38.1.1 w2)]) (Y ++ [x38.2])) (Cm1 (ow := E0.ow) (p := (E0.mk (((J9 E0.ocs h Y).length : Int) + 1) x29.2 e true lk (1 + x31.2) x38.1.1 w2)) (x := x38.2) hYl)) ?_;refine R5 ?_;refine Bc0 n S h Y v (n - 1) ((cu, r2)) (h ++ [⟨((J9 E0.ocs h Y).length : Int) + 1, x29.2, e, true, lk, 1 + x31.2, x38.1.1, w2⟩]) (Y ++ [x38.2]) (v67_1) ?_ ?_ (Le.trans (B4 [1, 0, 0] rfl) (C7 1 (Eq.trans (by (rw [CG3 (ocs := E0.ocs) hinv.2.1]; rfl)) (S0 _).symm) ⟨rfl, rfl, E5 (fun z => some (AV.int z)) qz8, rfl, rfl, trivial⟩))
  ·exact ⟨⟨⟨by rw [G3]; simp; omega, by omega⟩, by rw [G3]; simp; omega⟩, by rw [G3, G3, hYl]; rfl, hinv.2.2.1.snoc hIC51.2.2 (DQ0 ok37.2.1.2 ok38 ⟨hIC51.1, hIC51.2.1⟩), hIC44.2.1, by rw [G3]; simp; omega⟩
  omega
 intro h22 k22;refine R5 ?_;refine zq75 ?_;intro x69 ok69;refine zC ?_ ?_
 ·intro h69;refine R5 ?_;refine zI [0] rfl call82 (Q6 _ _ hcode _ _ (by rw [U3 hinv.2.1]; omega) qz8) (A2 (A0 rfl) (A2 (A0 rfl) B0)) rfl ?_;intro x73 ok73;have hkl : x73.2.toNat < h.length := (by have h9 := U3 (ocs := E0.ocs) hinv.2.1; omega);obtain ⟨d, hd⟩ := B3 hkl;obtain ⟨y, hy⟩ := B3 (show x73.2.toNat < Y.length by rw [hinv.2.1]; exact hkl);obtain ⟨g0, hg0⟩ := Ai2 d.Got 0;refine R8 ?_;refine A1 rfl (I3 1 rfl N6 V7 zA rfl zA qz8 Bz5) ?_;refine A1 rfl (L5 1 rfl r7 rfl T7 zA rfl rfl BU1) ?_;refine A1 rfl (N5 1 rfl zA rfl AE5 BU1 rfl) ?_;refine A1 rfl (I3 1 rfl N6 V7 zA rfl zA qz8 Bz5) ?_;refine A1 rfl (L5 1 rfl r7 rfl T7 zA rfl rfl BU1) ?_;refine Z7 1 rfl rfl rfl zA zA (AX3 _) rfl T7 BU1 rfl ?_;refine R2 ?_;refine AWP.le (S6 2 (t := ([Go.AV.Own.arr y 71 3 (d.Got.map F9.cs)]) ++ (nin E0.ow (h.eraseIdx x73.2.toNat) (Y.eraseIdx x73.2.toNat))) (AX4 (ow := E0.ow) hd hy)) ?_;refine R3 ?_;refine A1 rfl (I3 1 rfl N6 V7 zA rfl zA qz8 Bz5) ?_;refine A1 rfl (L5 1 rfl r7 rfl S3 zA rfl rfl BU1) ?_;refine A1 rfl (N5 1 rfl zA rfl AD6 BU1 rfl) ?_;refine R5 ?_;refine J6 rfl (fun hc => I3 1 rfl N6 V7 (A9 rfl hc) rfl (A9 rfl hc) qz8 Bz5) ?_;refine J6 rfl (fun hc => L5 1 rfl r7 rfl S3 (A9 rfl hc) rfl rfl BU1) ?_;refine J6 rfl (fun hc => N5 1 rfl (A9 rfl hc) rfl AD6 BU1 rfl) ?_;refine J6 rfl (fun hc => I3 2 rfl I8 S2 (A9 rfl hc) rfl J4 qz8 Bz5) ?_;refine J6 rfl (fun hc => L5 2 rfl underlying71 rfl T7 (A9 rfl hc) rfl rfl qz19) ?_;refine J6 rfl (fun hc => N5 2 rfl (A9 rfl hc) rfl AE5 qz19 rfl) ?_;refine zC ?_ ?_
  ·intro h99;have hgp : 0 < d.Got.length := (by simp only [A7] at h99; simp at h99; exact h99.1);refine zL [1] ?_;refine O5 _ [(0, false), (1, false), (2, false), (3, false), (4, false), (5, false), (6, true)] E6 E6 rfl (S1 1) ?_;refine R2 ?_;refine P7 rfl rfl rfl (fun ext => I3 0 rfl N6 V7 zA rfl zA qz8 Bz5) ?_;refine P7 rfl rfl rfl (fun ext => L5 0 rfl r7 rfl S3 zA rfl rfl BU1) ?_;refine P7 rfl rfl rfl (fun ext => N5 0 rfl zA rfl AD6 BU1 rfl) ?_;refine R1 ?_;refine S8 rfl rfl rfl (AC5 2 (P3 [1] rfl call140 rfl (DN5 _ _ hcode _ qz8) (A2 (A0 rfl) B0) rfl)) (fun a _ => qz4) ?_;intro x106 ok106;obtain ⟨D9, hD9⟩ : ∃ D9, D9 = Cw6 d x106.2 := ⟨_, rfl⟩;obtain ⟨H9, hH9⟩ : ∃ H9, H9 = h.set x73.2.toNat D9 := ⟨_, rfl⟩;have hH1 : AN0 H9 ∧ H9.length ≤ 10 := (by rw [hH9, hD9]; exact ⟨Cd6 hinv.2.2.1 hd rfl (DC7 d ok106.2), by rw [Z1]; omega⟩);refine R1 ?_;refine A1 rfl (I3 1 rfl I8 S2 zA rfl J4 qz8 Bz5) ?_;refine A1 rfl (L5 1 rfl underlying71 rfl K1 zA rfl rfl qz19) ?_;refine Z7 1 rfl rfl rfl zA zA (n6 _) rfl K1 qz19 rfl ?_;refine R2 ?_;refine G6 qz9 ?_;refine zL [0, 1, 0] ?_;refine AWP.le (S6 2 (t := nin E0.ow (h.set x73.2.toNat D9) Y) ((Ao6 (b := E0.ow D9 y ++ nin E0.ow (h.eraseIdx x73.2.toNat) (Y.eraseIdx x73.2.toNat)) (by subst hD9; first | rfl | (unfold E0.ow; rw [Bz0 (hg0 hgp)]; rfl)) (DE2 hd hy)))) ?_;refine R2 ?_;refine BD6 (AV3 2 0 (.arr v 45 8 (H9.map E0.cs)) rfl (⟨rfl, rfl, rfl, qz63⟩) (o6 1 rfl rfl N7)) ?_;refine R3 ?_;exact I5 [1, 0] ((x106.1, H9, v)) (qz90) rfl B8 M9
  intro h99;obtain ⟨D9, hD9⟩ : ∃ D9, D9 = yesLook d := ⟨_, rfl⟩;obtain ⟨H9, hH9⟩ : ∃ H9, H9 = h.set x73.2.toNat D9 := ⟨_, rfl⟩;have hH1 : AN0 H9 ∧ H9.length ≤ 10 := (by rw [hH9, hD9]; exact ⟨Cd6 hinv.2.2.1 hd rfl (Nat.le_add_right _ _), by rw [Z1]; omega⟩);refine R2 ?_;refine G6 qz9 ?_;refine zL [0, 0, 0] ?_;refine AWP.le (S6 2 (t := nin E0.ow (h.set x73.2.toNat D9) Y) ((Ao6 (b := E0.ow D9 y ++ nin E0.ow (h.eraseIdx x73.2.toNat) (Y.eraseIdx x73.2.toNat)) (by subst hD9; first | rfl | (unfold E0.ow; rw [Bz0 (hg0 hgp)]; rfl)) (DE2 hd hy)))) ?_;refine R2 ?_;refine BD6 (AV3 2 1 (.arr v 45 8 (H9.map E0.cs)) rfl (⟨rfl, rfl, rfl, qz63⟩) (o6 0 rfl rfl N7)) ?_;refine R3 ?_;exact I5 [0, 0] ((x73.1, H9, v)) (qz90) rfl B8 M9
 intro h69;obtain ⟨H9, hH9⟩ : ∃ H9, H9 = h := ⟨_, rfl⟩;have hH1 : AN0 H9 ∧ H9.length ≤ 10 := (by rw [hH9]; exact ⟨hinv.2.2.1.big, by omega⟩);refine R2 ?_;refine G6 qz9 ?_;refine R2 ?_;refine BD6 (AV3 2 1 (.arr v 45 8 (H9.map E0.cs)) rfl (⟨rfl, rfl, rfl, qz63⟩) (o6 0 rfl rfl N7)) ?_;refine R3 ?_;exact I5 [0, 0] ((x69.1, H9, v)) (qz90) rfl B8 M9
end Go.PQ
namespace Go.M
open Go.AV
structure FoundO (h : List E0) (o : List Int) : Prop where
  nd : o.Nodup
  sub : ∀ n ∈ o, n ∈ yesIdx h
theorem DQ1 {h : List E0} (H : AN0 h) {k : Nat} {d d' : E0} (hd : h[k]? = some d) (hw : d'.Writes = d.Writes) (hg : d'.Got = d.Got) : AN0 (h.set k d') := ⟨AS2 (P := fun d : E0 => ∀ w ∈ d.Writes, w.Key ∈ AD0) H.1 (by rw [hw]; exact H.1 d (C2 hd)), AS2 (P := fun d : E0 => d.size ≤ 5000) H.2 (by have := H.2 d (C2 hd); unfold E0.size at *; rw [hw, hg]; exact this)⟩
end Go.M
namespace Go.PQ
open Go.Proofs Go.Proofs.Tryz
open Go Go.AV Go.M
attribute [local irreducible] OpW OpA OpS AWP K6 L8 K8 OpE K7 I7 L1 Le Ev G4 M7 j0 Int.tmod Int.tdiv IntKind.wrap T3
theorem Bv2 (b : Nat) (code : List Int) (hcode : AB3 code) (c : Z3) (hp : c.p ≤ 800000) : L7 36 [AV.ptr b 0] [.box b 86 (Y0 code c)] (fun x : Z3 × List E0 × Value => x.1.p ≤ c.p + 3010 ∧ x.2.1.length ≤ 10 ∧ AN0 x.2.1) (fun x => [.box b 86 (Y0 code x.1), .arr x.2.2 45 8 (x.2.1.map E0.cs)]) (fun x => AV.is x.2.2) := by
 refine C6 func36 rfl ntmps36 rfl ?_;refine zq48 ?_;refine R4 ?_;refine zI [0] rfl call81 (CV4 _ _ hcode _ qz8) (A2 (A0 rfl) B0) rfl ?_;intro x5 ok5;refine zK ?_ ?_
 ·intro h8 k8;have hpos : 0 < x5.2.1.length := (by simp only [A7] at h8; simp at h8; omega);obtain ⟨d, hd⟩ := B3 hpos;refine R3 ?_;refine zq144 ?_;intro x10 ok10;refine zC ?_ ?_
  ·intro h11;refine R3 ?_;refine zq98 ?_;refine A1 rfl (N5 1 rfl zA rfl Q4 Bk4 rfl) ?_;refine zq98 ?_;refine Z7 1 rfl rfl rfl zA zA (W9 _ _) rfl F2 Bk4 rfl ?_;refine R7 ?_;exact I5 [0, 0] ((x10.1, x5.2.1.set 0 { d with End := d.Begin }, x5.2.2)) (qz53) rfl CE4 M9
  intro h11;refine zC ?_ ?_
  ·intro h20;refine R2 ?_;refine zq98 ?_;refine Z7 1 rfl rfl rfl zA J4 (W9 _ _) rfl F2 Bk4 rfl ?_;refine R7 ?_;exact I5 [0, 0] ((x10.1, x5.2.1.set 0 { d with Txn := 0 }, x5.2.2)) (qz53) rfl CE4 M9
  intro h20;refine zC ?_ ?_
  ·intro h25;refine R2 ?_;refine A1 rfl (I3 1 rfl N6 V7 zA rfl J4 qz8 AL4) ?_;refine A1 rfl (L5 1 rfl r7 rfl T7 zA rfl rfl Bk4) ?_;refine Z7 1 rfl rfl rfl zA Af6 (AX3 _) rfl T7 Bk4 rfl ?_;refine R7 ?_;exact I5 [0, 0] ((x10.1, x5.2.1.set 0 { d with Look := true }, x5.2.2)) (qz53) rfl CE4 M9
  intro h25;refine R7 ?_;exact I5 [0, 0] ((x10.1, x5.2.1, x5.2.2)) (qz53) rfl CE4 M9
 intro h8 k8;refine R7 ?_;exact I5 [0, 0] ((x5.1, x5.2.1, x5.2.2)) (qz53) rfl CE4 M9
theorem BG2 (b : Nat) (code : List Int) (hcode : AB3 code) (c : Z3) (hp : c.p ≤ 800000) : L7 36 [AV.ptr b 0] [.box b 86 (Y0 code c)] (fun x : Z3 × List E0 => x.1.p ≤ c.p + 3010 ∧ x.2.length ≤ 10 ∧ AN0 x.2) (fun x => [.box b 86 (Y0 code x.1)]) (fun x => AV.list 8 (x.2.map E0.cs)) :=
  AP5 (fun x => (x.1, x.2.1)) (fun x => [.arr x.2.2 45 8 (x.2.1.map E0.cs)]) (fun x => [.box b 86 (Y0 code x.1)]) (Bv2 b code hcode c hp) (fun _ h => h) (fun x _ => K3 (X9.2 rfl) F6) (fun x _ => AO2 (l₁ := [_])) (fun _ _ => o6 0 rfl rfl N7) (fun x _ => BX6 ⟨rfl, rfl, AI4⟩ BN2)
theorem Bv3 (code : List Int) (hcode : AB3 code) : L7 14 [An4 code] [] (fun x : E0 × E0 => x.1.size ≤ 5000 ∧ x.2.size ≤ 5000) (fun _ => []) (fun x => AV.tup [AV.agg x.1.cs, AV.agg x.2.cs]) := by
 refine C6 func14 rfl ntmps14 rfl ?_;refine R3 ?_;intro b2;refine R1 ?_;intro b3;refine R6 ?_;intro b8;refine R5 ?_;refine zI [0] rfl call36 (BG2 _ _ hcode ⟨0, 0⟩ D4) (A2 (A0 rfl) B0) rfl ?_;intro x10 ok10;refine zK ?_ ?_
 ·intro h13 k13;refine R8 ?_;refine AC8 2 6 3 rfl rfl N7 ?_;refine AC8 2 7 3 rfl rfl N7 ?_;refine AC8 1 6 3 rfl rfl N7 ?_;refine AC8 1 7 3 rfl rfl N7 ?_;exact I5 [] ((⟨1, 0, -1, false, false, 0, [], []⟩, ⟨2, 3, 5, false, false, 0, [], []⟩)) (qz140) rfl B8 (j9 rfl D4 (I1 (F5 (ys := _) 2 rfl rfl isAgg45 V7 rfl) (I1 (F5 (ys := _) 1 rfl rfl isAgg45 V7 rfl) z8)))
 intro h13 k13;obtain ⟨d0, hd0⟩ := B3 (show 0 < x10.2.length by omega);obtain ⟨d1, hd1⟩ := B3 (show 1 < x10.2.length by omega);refine R2 ?_;refine V9 [] 7 (.pure 0 (.pure 1 (.pure 2 (.pure 3 (.pure 4 (.pure 5 (.e1 6 .nil))))))) E6 E6 rfl CA5 ?_;refine R1 ?_;refine M0 rfl rfl rfl (fun ext => C8 rfl N6 V7 zA J4 hd0 qz3) ?_;refine R2 ?_;refine M0 rfl rfl rfl (fun ext => C8 rfl N6 V7 zA J4 hd1 qz3) ?_;refine R2 ?_;refine AK5 rfl rfl rfl (o7 2 rfl rfl (A0 rfl) (A0 rfl) (i3 _) rfl V7 rfl) (fun a _ => qz4) ?_;intro _ _;refine R4 ?_;exact I5 [] ((d0, d1)) (qz140) rfl B8 (j9 rfl D4 (I1 (F5 (ys := _) 2 rfl rfl isAgg45 V7 rfl) (I1 (F5 (ys := _) 1 rfl rfl isAgg45 V7 rfl) z8)))
end Go.PQ