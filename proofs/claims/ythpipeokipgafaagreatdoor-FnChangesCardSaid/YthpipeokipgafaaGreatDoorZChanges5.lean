/- Texts of the claim, part 5. -/
import Derived.Lib.ItoaNum
import Derived.Lib.ItoaMem
import Derived.Lib.Split
import Derived.Lib.SplitLaws
import Derived.Lib.AtoiAllCases
import Derived.Lib.Strings
import Derived.Lib.IndexMore
import Derived.Lib.Join
import Derived.Test.YthpipeokipgafaaGreatDoorZChanges4
set_option linter.defProp false
set_option linter.unusedVariables false
set_option linter.unusedSimpArgs false
set_option maxRecDepth 100000
set_option maxHeartbeats 4000000
namespace Go.PQ
open Go.Proofs
open Go Go.AV Go.M
attribute [local irreducible] OpW OpA OpS AWP J6 L3 K7 OpE K2 H9 K6 Le Ev F7 M7 Int.tmod Int.tdiv IntKind.wrap
theorem BA0 (l : List Str) (hl : l.length ≤ 4194304) : M1 151 [strs l] [] (fun _ : Value => True) (fun v => [.arr v 9 1 (l.map fun s => [AV.str s])]) (fun v => AV.is v) := by
  refine C8 Tryz.func151 rfl Tryz.ntmps151 rfl ?_;refine R2 ?_;refine A1 rfl (G1 rfl I9) ?_;refine R3 ?_;refine P6 rfl rfl rfl rfl E3 I2 ?_;intro v3;refine R1 ?_;refine H4 (by' := 16) 0 rfl rfl rfl rfl E3 Tryz.type9 rfl rfl rfl rfl rfl rfl (A0 rfl) (A0 rfl) rfl BP3 ?_;intro v5_1;refine R3 ?_;exact I4 [0] v5_1 (trivial) rfl C1 O6
theorem Ag6 (v : Value) (l : List Str) (s : Str) (hs : AN6 l) (hl : l.length ≤ 1000000) : M1 155 [AV.is v, AV.str s] [.arr v 9 1 (l.map fun s => [AV.str s])] (fun _ : Value => True) (fun v' => [.arr v' 9 1 ((u4 l s).map fun s => [AV.str s])]) (fun v' => AV.is v') := by
 refine C8 Tryz.func155 rfl Tryz.ntmps155 rfl ?_;refine R2 ?_;refine A1 rfl (G1 rfl I9) ?_;refine R9 ?_;refine F2 [(0, _), (1, _), (4, _)] _ (fun (k : Nat) => k ≤ l.length ∧ ∀ i y, k ≤ i → l[i]? = some y → Op.bytesLess s y = true) (fun k => []) (fun k => [(5, AV.int k)]) (fun k => k) (l.length) ?_ (G3 ⟨C3 (fun z => some (AV.int z)) (by rw [A7]), rfl, rfl, rfl, trivial⟩) ?_
 ·exact ⟨K5 _, fun i y h1 h2 => by (have := (E9.1 h2).1; omega)⟩
 intro k hinv;obtain ⟨y, hy0⟩ : ∃ y, 0 < k → l[k - 1]? = some y := by (by_cases h9 : 0 < k; (have h8 := hinv.1; exact ⟨_, fun _ => N6 (show k - 1 < l.length by omega)⟩); exact ⟨[], fun h8 => absurd h8 h9⟩)
 refine R9 ?_;refine L6 rfl (fun hc => H6 0 rfl E3 I2 (A9 rfl hc) rfl (A9 rfl hc) BP0 (by have := r3 hc; have := hinv.1; simp only [A7]; omega)) ?_;refine L6 rfl (fun hc => AF6 0 rfl (A9 rfl hc) rfl j4 (BD9 (hy0 BP0) BP0)) ?_;refine R1 ?_;refine L6 rfl (fun hc => Bq8 rfl (A9 rfl hc) (A9 rfl hc)) ?_;refine R2 ?_;refine A3 ?_ ?_
 ·intro h19;have hkt : 0 < k ∧ Op.bytesLess s y = true := by (rw [Bg1] at h19; simpa using h19)
  refine R7 ?_;refine Am5 ?_;refine G4 k (k - 1) ?_ ?_ (G3 ⟨C3 (fun z => some (AV.int z)) qz8, rfl, rfl, rfl, trivial⟩)
  ·exact ⟨by omega, fun i z hi hz => if e : k ≤ i then hinv.2 i z e hz else qz104⟩
  omega
 intro h19;have hng : 0 < k → Op.bytesLess s y = false := fun h => by (rw [Bg1] at h19; simpa [h] using h19)
 refine R10 ?_;refine L6 rfl (fun hc => H6 0 rfl E3 I2 (A9 rfl hc) rfl (A9 rfl hc) BP0 (by have := r3 hc; have := hinv.1; simp only [A7]; omega)) ?_;refine L6 rfl (fun hc => AF6 0 rfl (A9 rfl hc) rfl j4 (BD9 (hy0 BP0) BP0)) ?_;refine R4 ?_;refine A3 ?_ ?_
 ·intro h32;have hke : 0 < k ∧ y = s := by simpa using h32
  rw [Bs3 hs (by rw [← hke.2]; exact hy0 hke.1)];refine R6 ?_;exact I4 [0] v (trivial) rfl qz95 (M4 rfl (A6 rfl C1))
 intro h32;have hne : 0 < k → y ≠ s := fun h e => by simp [h, e] at h32
 rw [CI5 hs hinv.1 hinv.2 (fun z hz hzz => by rw [hy0 hz] at hzz; injection hzz with hzz; subst hzz; exact ⟨hng hz, hne hz⟩)];refine R5 ?_;refine A1 rfl (Bf6 0 rfl E3 I2 (A0 rfl) rfl (A0 rfl) qz8 AB7) ?_;refine CG9 [] rfl rfl rfl rfl Tryz.call151 rfl (BA0 (l.drop k) (by rw [p7]; omega)) rfl (P1 (Ac4 (A0 rfl) (lt_tailm (C2 (i := 0) rfl) qz8 qz8)) m8) qz3 qz3 qz3 ?_;intro x37 ok37;refine R3 ?_;refine AWP.le (AK1 [0] 6 rfl rfl (K0 (C2 (i := 0) rfl) F6) (s7 0 rfl rfl U2)) ?_;refine R3 ?_;refine CV4 0 rfl rfl rfl rfl E3 I2 (A0 rfl) rfl (A0 rfl) qz8 AB7 ?_;intro v40_1;rw [l4, ← List.map_take];refine CG9 [] rfl rfl rfl rfl Tryz.call151 rfl (BA0 (l.take k) Ay7) rfl (P1 (Al1 0 (A0 rfl) rfl) m8) qz3 qz3 qz3 ?_;intro x41 ok41;refine R2 ?_;refine H4 (by' := 16) 0 rfl rfl rfl rfl E3 Tryz.type9 rfl rfl rfl rfl rfl rfl (A0 rfl) (A0 rfl) rfl BW8 ?_;intro v44_2;refine R1 ?_;refine H4 (by' := 16) 0 rfl rfl rfl rfl E3 Tryz.type9 rfl rfl rfl rfl rfl rfl (A0 rfl) (A0 rfl) rfl (by simp only [A7, F4, p7, H3, V8]; omega) ?_;intro v46_3;refine R3 ?_;exact I4 [0] v46_3 (trivial) rfl qz95 (M4 rfl (A6 rfl C1))
theorem CZ7 (r : List Str) (w : List A4) (hr : r.length ≤ 400000) (hw : w.length ≤ 400000) : M1 325 [strs r, AV.list 3 (w.map A4.cs)] [] (fun _ : Value => True) (fun v => [.arr v 9 1 ((w3 (r ++ Q3 w) []).map fun s => [AV.str s])]) (fun v => AV.is v) := by
 refine C8 Tryz.func325 rfl Tryz.ntmps325 rfl ?_;refine R2 ?_;refine A1 rfl (G1 rfl I9) ?_;refine R3 ?_;refine c7 9 1 rfl rfl rfl rfl I9 ?_;intro v5;refine R9 ?_;refine J0 [(1, _), (4, _), (10, _), (11, _)] _ (fun (i : Nat) (v : Value) => i ≤ r.length) (fun i v => [.arr v 9 1 ((w3 (r.take i) []).map fun s => [AV.str s])]) (fun i v => [(5, AV.is v), (12, AV.int i)]) (fun i v => r.length - i) (0) (v5) ?_ (K1 C1 A8) ?_
 ·exact E2 _
 intro i v hinv;refine R5 ?_;refine A3 ?_ ?_
 ·intro h13;have k13 := C5 h13;have hlt : i < r.length := by omega
  obtain ⟨x, hx⟩ := B4 hlt;have hpl := Ai3 (r.take i) [];rw [F4] at hpl;refine R5 ?_;refine A1 rfl (D3 rfl E3 I2 (A0 rfl) (A0 rfl) hx qz2) ?_;refine R6 ?_;refine F8 [0] rfl rfl rfl rfl Tryz.call155 rfl (Ag6 v (w3 (r.take i) []) x (AZ7 List.Pairwise.nil).1 (by simp only [Q1] at hpl; omega)) F0 rfl ?_;intro x18 ok18;refine R6 ?_;refine G8 i v (i + 1) (x18) ?_ ?_ (K1 (by exact C3 (fun z => [Own.arr _ 9 1 (List.map (fun s => [AV.str s]) z)]) (by rw [T5, hx]; exact (An0 _ _ _).symm)) A8)
  ·omega
  omega
 intro h13;have k13 := B9 h13;have hge : i = r.length := by omega
 rw [hge, AJ5];refine R9 ?_;refine J0 [(4, _), (20, _), (21, _)] _ (fun (j : Nat) (u : Value) => j ≤ w.length) (fun j u => [.arr u 9 1 ((w3 (r ++ Q3 (w.take j)) []).map fun s => [AV.str s])]) (fun j u => [(5, AV.is u), (22, AV.int j)]) (fun j u => w.length - j) (0) (v) ?_ (K1 (by (show [_] = [_]; simp [Q3])) A8) ?_
 ·exact E2 _
 intro j u hinv;refine R5 ?_;refine A3 ?_ ?_
 ·intro h23;have k23 := C5 h23;have hlt : j < w.length := by omega
  obtain ⟨x, hx⟩ := B4 hlt;have hpl := Ai3 (r ++ Q3 (w.take j)) [];simp only [H3, Q3, A7, F4, Q1] at hpl;refine R5 ?_;refine A1 rfl (D3 rfl D7 H0 (A0 rfl) (A0 rfl) hx qz2) ?_;refine R2 ?_;intro b9;refine R6 ?_;refine F8 [1] rfl rfl rfl rfl Tryz.call155 rfl (Ag6 u (w3 (r ++ Q3 (w.take j)) []) x.Key (AZ7 List.Pairwise.nil).1 (by simp only [Q3] at hpl ⊢; omega)) F0 rfl ?_;intro x29 ok29;refine R6 ?_;refine G8 j u (j + 1) (x29) ?_ ?_ (Le.trans (B8 [1, 0] rfl) (E5 1 (by exact C3 (fun z => [Own.arr _ 9 1 (List.map (fun s => [AV.str s]) z)]) (by rw [T5, hx]; simp only [Q3, X1, ← f4]; exact (An0 _ _ _).symm)) A8))
  ·omega
  omega
 intro h23;have k23 := B9 h23;have hge : j = w.length := by omega
 rw [hge, AJ5];refine R7 ?_;exact I4 [0] u (trivial) rfl C1 O6
end Go.PQ
namespace Go.M
open Go.AV
theorem fullC_at {l : List B1} {k : Str} {c : B1} (hc : ¬ atC l k < 0 → d7 l k = some c) : Ab2 l k = (decide ((0 : Int) ≤ atC l k) && decide ((16 : Int) ≤ (c.Vers.length : Int))) := by
  unfold Ab2;by_cases h : atC l k < 0
  · rw [CC0 h, AJ6 qz8]; rfl
  · rw [hc h, i7 qz8, Bool.true_and]
    dsimp only;rw [decide_eq_decide]; omega
theorem at_some (l : List B1) (k : Str) : ∃ c : B1, ¬ atC l k < 0 → (∃ p : Nat, atC l k = (p : Int) ∧ l[p]? = some c) ∧ d7 l k = some c := by
  by_cases h : atC l k < 0
  · exact ⟨⟨[], []⟩, fun k => absurd h k⟩
  · obtain ⟨p, c, h1, h2, h3⟩ := CC1 h
    exact ⟨c, fun _ => ⟨⟨p, h1, h2⟩, h3⟩⟩
theorem BA1 {s : D9} {i : Nat} {h y : D1} (hx : s.Held[i]? = some h) (hy : s.Held[i - 1]? = some y) : Ai9 s i = (!((!Aw8 (AT4 h) || decide (s.Floor < h.Time)) || (decide ((0 : Int) < (i : Int)) && decide (h.Txn ≤ y.Txn))) && ((s.Held.take i).all (fun g => apart g h.Reads h.Writes) && h.Writes.all fun w => decide (N8 s.Cells w.Key < h.Time))) := by
  rw [DB8 hx hy, Am9];have h2 : ((s.Held.take i).all fun g => apart g h.Reads h.Writes) = !((s.Held.take i).any fun g => Ap3 h g) := by
    rw [List.not_any_eq_all_not]; congr 1; funext g; rw [BK4, Bool.not_not]
  have h3 : (h.Writes.all fun w => decide (N8 s.Cells w.Key < h.Time)) = !(h.Writes.any fun w => decide (h.Time ≤ N8 s.Cells w.Key)) := by
    rw [List.not_any_eq_all_not]; congr 1; funext w; rw [← decide_not, decide_eq_decide]; omega
  rw [h2, h3]
theorem BS8 {s : D9} {i : Nat} {t y : N1} (hx : s.Told[i]? = some t) (hy : s.Told[i - 1]? = some y) : Ap4 s i = (!((((!within t.Txn 1 60 || (decide ((0 : Int) < (i : Int)) && decide (t.Txn ≤ y.Txn))) || (t.Yes && !within t.Time 1 s.Floor)) || (!t.Yes && (t.Time != 0)))) && !AP1 s.Held t.Txn) := by
  rw [DB9 hx hy];congr 2
  show ((!within t.Txn 1 60 || _) || _) = _
  have e : (!((t.Yes && within t.Time 1 s.Floor) || (!t.Yes && (t.Time == 0)))) = ((t.Yes && !within t.Time 1 s.Floor) || (!t.Yes && (t.Time != 0))) := by
    show _ = ((t.Yes && !within t.Time 1 s.Floor) || (!t.Yes && !(t.Time == 0)))
    cases t.Yes <;> simp
  rw [e]
  cases within t.Txn 1 60 <;> cases (decide ((0 : Int) < (i : Int)) && decide (t.Txn ≤ y.Txn)) <;> cases (t.Yes && !within t.Time 1 s.Floor) <;> cases (!t.Yes && (t.Time != 0)) <;> rfl
def AL3 (l : List D1) (n : Int) : D1 × Bool := match AB3 l n with | some h => (h, true) | none => (zHeld, false)
def Ae9 (l : List N1) (n : Int) : N1 × Bool := match BV2 l n with | some h => (h, true) | none => (zTold, false)
theorem Ba8 (l : List D1) (n : Int) : (AL3 l n).2 = AP1 l n := by
  unfold AL3
  cases h : AB3 l n with
  | none => exact (Az7.1 h).symm
  | some x => obtain ⟨h1, h2⟩ := Ag3 h; exact (hasH_iff.2 ⟨x, h1, h2⟩).symm
theorem DD0 (l : List N1) (n : Int) : (Ae9 l n).2 = AM2 l n := by
  unfold Ae9
  cases h : BV2 l n with
  | none => exact (Cu6.1 h).symm
  | some x =>
    unfold BV2 at h;exact (hasT_iff.2 ⟨x, Ah0 h, by simpa using List.find?_some h⟩).symm
theorem BS9 {α : Type} {p : α → Bool} : ∀ {l : List α} {i : Nat} {x : α}, l[i]? = some x → p x = true → (∀ j y, j < i → l[j]? = some y → p y = false) → l.find? p = some x
  | [], i, x, h, _, _ => by simp at h
  | y :: l, 0, x, h, hp, _ => by simp at h; subst h; rw [List.find?_cons, hp]
  | y :: l, i + 1, x, h, hp, hn => by
    rw [List.find?_cons, hn 0 y qz8 rfl];exact BS9 AO9 hp fun j z hj hz => hn (j + 1) z qz8 (by simpa using hz)
theorem CZ8 {α : Type} {p : α → Bool} {l : List α} (hn : ∀ (j : Nat) (y : α), l[j]? = some y → p y = false) : l.find? p = none := by
  rw [List.find?_eq_none];intro x hx;obtain ⟨j, hj⟩ := X9 hx;rw [hn j x hj]; decide
structure SO (s : D9) : Prop where
  floor : 0 ≤ s.Floor
  cells : AH8 s.Cells
  hsort : s.Held.Pairwise fun a b => a.Txn < b.Txn
  tsort : s.Told.Pairwise fun a b => a.Txn < b.Txn
  times : ∀ h ∈ s.Held, 1 ≤ h.Time
theorem gs_so {s : D9} (g : GS s) : SO s := ⟨g.floor.1, AU7 g.cells, g.hsort, g.tsort, fun h hm => (Cu8 g hm).1⟩
theorem Cp2 {t : Int} : ∀ {w : List A4} {l q : List B1}, AH8 l → Z4 l w t = some q → AH8 q
  | [], l, q, h, e => by simp [Z4] at e; subst e; exact h
  | x :: w, l, q, h, e => by
    unfold Z4 at e;split at e
    · cases e
    · exact Cp2 (AS8 h _ _) e
theorem so_apply {s : D9} (g : SO s) {r : M5} (h : (U4 s r).2 = true) : SO (U4 s r).1 := by
  have h0 := g.floor;have hless : SO ⟨s.Floor, s.Cells, o7 s.Held r.Txn, s.Told⟩ := ⟨h0, g.cells, g.hsort.sublist List.filter_sublist, g.tsort, fun k hk => g.times k (AW8.1 hk).1⟩;unfold U4 at h ⊢;by_cases h4 : r.Kind = 4
  · rw [D0 h4] at h ⊢
    have := r3 h;exact ⟨by dsimp only; omega, g.cells, g.hsort, g.tsort, g.times⟩
  · rw [C6 h4] at h ⊢
    by_cases hT : AM2 s.Told r.Txn = true
    · rw [D0 hT] at h; cases h
    · rw [C6 hT] at h ⊢
      rw [Bool.not_eq_true] at hT;have htn := BS0.1 hT;have htl : (AP2 ⟨r.Txn, r.Yes, r.Time⟩ s.Told).Pairwise fun a b => a.Txn < b.Txn := BZ6 g.tsort htn;by_cases h1 : r.Kind = 1
      · rw [D0 h1] at h ⊢
        simp only [E8, i6, H1] at h;refine ⟨by dsimp only; omega, g.cells, BZ5 g.hsort (AS9.1 h.1.1), g.tsort, fun k hk => ?_⟩;rcases Ad3.1 hk with rfl | hk
        · show 1 ≤ r.Time; omega
        · exact g.times k hk
      · rw [C6 h1] at h ⊢
        by_cases hy : r.Yes = true
        · rw [D0 hy] at h ⊢
          cases hf : AB3 s.Held r.Txn with
          | none => rw [hf] at h; cases h
          | some k =>
            rw [hf] at h;dsimp only at h ⊢;by_cases hlt : r.Time < k.Time
            · rw [D0 hlt] at h; cases h
            · rw [C6 hlt] at h ⊢
              by_cases hp : (AE2 s.Cells k.Writes r.Time).2 = true
              · rw [D0 hp]
                exact ⟨by unfold AI2; dsimp only; split <;> omega, Cp2 g.cells (Bg3 hp).1, hless.hsort, htl, hless.times⟩
              · rw [C6 hp] at h; cases h
        · rw [C6 hy]
          exact ⟨h0, g.cells, hless.hsort, htl, hless.times⟩
theorem so_step {s : D9} (g : SO s) (r : M5) : SO (AD8 s r) := by
  unfold AD8;split
  · exact so_apply g ‹_›
  · exact g
theorem so_zero : SO T8 := gs_so BM5
theorem Cp3 : ∀ {l : List M5} {s : D9}, SO s → SO (V9 s l)
  | [], s, g => g
  | r :: l, s, g => by
    show SO (V9 (AD8 s r) l)
    exact Cp3 (so_step g r)
theorem BH6 {l : List D1} {i : Nat} {h : D1} {n : Int} (hx : l[i]? = some h) : o7 (l.take (i + 1)) n = if (h.Txn != n) = true then o7 (l.take i) n ++ [h] else o7 (l.take i) n := by
  unfold o7;rw [T5, hx, List.filter_append];show _ ++ List.filter _ [h] = _
  split
  · rename_i e; rw [List.filter_cons_of_pos (p := fun h : D1 => h.Txn != n) e]; rfl
  · rename_i e; rw [List.filter_cons_of_neg (p := fun h : D1 => h.Txn != n) e]; simp
theorem CK0 (s : Str) : ∀ l : List Str, C7 (fun x : Str => x.length) (u4 l s) ≤ C7 (fun x : Str => x.length) l + s.length + 1
  | [] => by unfold u4 C7; simp; omega
  | y :: l => by
    have ih := CK0 s l;have hc : ∀ (z : Str) (q : List Str), C7 (fun x : Str => x.length) (z :: q) = C7 (fun x : Str => x.length) q + z.length + 1 := fun z q => by unfold C7; simp; omega
    unfold u4;split
    · rw [hc s]; omega
    · split
      · omega
      · rw [hc, hc]; omega
theorem Ba9 {α : Type} {f : α → Nat} {c : Nat} : ∀ {l : List α}, (∀ x ∈ l, f x ≤ c) → C7 f l ≤ l.length * (c + 1)
  | [], _ => E2 _
  | x :: l, h => by
    have h1 := Ba9 (l := l) fun y hy => h y (Q2 _ hy);have h2 := h x Y9;unfold C7 at h1 ⊢;simp only [H8, U8, List.sum_cons];have : (l.length + 1) * (c + 1) = l.length * (c + 1) + (c + 1) := Nat.succ_mul _ _;omega
theorem gr_size {r : E6} {t : Int} (h : GR r t) : r.size ≤ 60 * 401 := by
  unfold E6.size;refine L8 (Ba9 (c := 400) fun e he => ?_) (t6 _ h.len);exact AP7 (h.ents e he).2.2
theorem As4 {g : C4} (h : GG g) : g.size ≤ 5 * 24061 := by
  unfold C4.size;refine L8 (Ba9 (c := 24060) fun r hr => gr_size (h.reps r hr)) (t6 _ ?_);rcases h.many with k | k <;> omega
theorem Cj1 {a b : List I5} {i : Nat} {x y : I5} (h : a.take i = b.take i) (hx : a[i]? = some x) (hy : b[i]? = some y) (he : x = y) : a.take (i + 1) = b.take (i + 1) := by
  rw [T5, T5, h, hx, hy, he]
theorem DD1 {a b : List I5} {i n : Nat} {x y : I5} (hi : i < n) (hx : a[i]? = some x) (hy : b[i]? = some y) (he : x ≠ y) : AS1 a b n = false := by
  unfold AS1;refine AJ6 fun h => he ?_;have h1 := C3 (fun l => l[i]?) h.2.2;rw [AA8 hi, AA8 hi, hx, hy] at h1;injection h1
theorem entry_eq {x y : I5} : (x.Term != y.Term || !decide (x.Rec = y.Rec)) = !decide (x = y) := by
  cases x; cases y
  rw [AO5];simp only [AA9, BA6, ne_eq, i6, w5, I5.mk.injEq, not_and];exact ⟨fun h e1 e2 => h.elim (fun k => k e1) (fun k => k e2), fun h => Classical.byCases (fun e1 => .inr (h e1)) .inl⟩
theorem Aa9 {α : Type} {p : α → Bool} {l : List α} {i : Nat} {x : α} (h : l[i]? = some x) : ((l.take (i + 1)).filter p).length = ((l.take i).filter p).length + (if p x = true then 1 else 0) := by
  rw [T5, h, List.filter_append, H3];congr 1
  show ([x].filter p).length = _
  by_cases hp : p x = true
  · rw [List.filter_cons_of_pos hp, D0 hp]; rfl
  · rw [List.filter_cons_of_neg hp, C6 hp]; rfl
theorem DD2 {l : List I5} {e : I5} (h : l[l.length - 1]? = some e) : AT6 l = e.Term := by
  unfold AT6;rw [List.getLast?_eq_getElem?, h]
theorem Cu9 {l : List I5} (h : l.length = 0) : AT6 l = 0 := by
  rw [Ao1 h]; rfl
theorem BA2 {t : Int} {l : List I5} {i : Nat} {p : Int} {e : I5} (hx : l[i]? = some e) : AS0 t p (l.drop i) = ((within e.Term p t && S1 e.Rec) && AS0 t e.Term (l.drop (i + 1))) := by
  rw [I8 hx]; rfl
end Go.M
namespace Go.PQ
open Go.Proofs
open Go Go.AV Go.M
attribute [local irreducible] OpW OpA OpS AWP J6 L3 K7 OpE K2 H9 K6 Le Ev F7 M7 Int.tmod Int.tdiv IntKind.wrap
theorem CO3 (h : D1) : E1 360 [AV.agg h.cs] (AV.agg (AT4 h).cs) := by
  refine B3 Tryz.func360 rfl Tryz.ntmps360 rfl ?_;refine R3 ?_;intro b1;refine R1 ?_;intro b2;refine R17 ?_;exact D6 rfl (F3 (ys := _) 0 rfl rfl AV1 AD7 rfl)
theorem BA3 (l : List A4) (k : Str) : E1 281 [AV.list 3 (l.map A4.cs), AV.str k] (AV.bool (AN7 l k)) := by
 refine B3 Tryz.func281 rfl Tryz.ntmps281 rfl ?_;refine l7 (t := 0) rfl fun hl => ?_;try simp only [A7] at hl
 refine R12 ?_;refine F2 [(1, _), (7, _), (8, _)] _ (fun (i : Nat) => i ≤ l.length ∧ AN7 l k = (l.drop i).any (fun w => w.Key == k)) (fun i => []) (fun i => [(9, AV.int i)]) (fun i => l.length - i) (0) ?_ (G3 A8) ?_
 ·exact ⟨E2 _, rfl⟩
 intro i hinv;refine R5 ?_;refine A3 ?_ ?_
 ·intro h10;have k10 := C5 h10;have hlt : i < l.length := by omega
  obtain ⟨x, hx⟩ := B4 hlt;refine R5 ?_;refine A1 rfl (D3 rfl D7 H0 (A0 rfl) (A0 rfl) hx qz2) ?_;refine R2 ?_;intro b6;refine R9 ?_;refine A3 ?_ ?_
  ·intro h16;refine R5 ?_;exact D6 rfl (A6 rfl qz166)
  intro h16;refine R5 ?_;refine G4 i (i + 1) ?_ ?_ (S5 1 A8)
  ·exact ⟨by omega, by rw [hinv.2, I8 hx, Ab1, h16]; rfl⟩
  omega
 intro h10;have k10 := B9 h10;have hge : l.length ≤ i := by omega
 refine R6 ?_;exact D6 rfl (A6 rfl qz166)
theorem Bt8 (l : List Str) (k : Str) : E1 298 [strs l, AV.str k] (AV.bool (BE9 l k)) := by
 refine B3 Tryz.func298 rfl Tryz.ntmps298 rfl ?_;refine l7 (t := 0) rfl fun hl => ?_;try simp only [A7] at hl
 refine R12 ?_;refine F2 [(1, _), (7, _), (8, _)] _ (fun (i : Nat) => i ≤ l.length ∧ BE9 l k = (l.drop i).any (fun x => k == x)) (fun i => []) (fun i => [(9, AV.int i)]) (fun i => l.length - i) (0) ?_ (G3 A8) ?_
 ·exact ⟨E2 _, rfl⟩
 intro i hinv;refine R5 ?_;refine A3 ?_ ?_
 ·intro h10;have k10 := C5 h10;have hlt : i < l.length := by omega
  obtain ⟨x, hx⟩ := B4 hlt;refine R5 ?_;refine A1 rfl (D3 rfl E3 I2 (A0 rfl) (A0 rfl) hx qz2) ?_;refine R9 ?_;refine A3 ?_ ?_
  ·intro h15;refine R5 ?_;exact D6 rfl (A6 rfl qz154)
  intro h15;refine R5 ?_;refine G4 i (i + 1) ?_ ?_ (G3 A8)
  ·exact ⟨by omega, by rw [hinv.2, I8 hx, Ab1, show (k == x) = false from by have h9 := h15; simp at h9 ⊢; exact fun e => h9 e.symm]; rfl⟩
  omega
 intro h10;have k10 := B9 h10;have hge : l.length ≤ i := by omega
 refine R6 ?_;exact D6 rfl (A6 rfl qz154)
theorem apart_spec (h : D1) (rs : List Str) (ws : List A4) : E1 260 [AV.agg h.cs, strs rs, AV.list 3 (ws.map A4.cs)] (AV.bool (apart h rs ws)) := by
 refine B3 Tryz.func260 rfl Tryz.ntmps260 rfl ?_;refine l7 (t := 1) rfl fun hl1 => ?_;try simp only [A7] at hl1
 refine l7 (t := 2) rfl fun hl2 => ?_;try simp only [A7] at hl2
 refine R3 ?_;intro b3;refine R10 ?_;refine F2 [(2, _), (3, _), (11, _), (12, _)] _ (fun (i : Nat) => i ≤ rs.length ∧ (rs.all fun k => !AN7 h.Writes k) = ((rs.drop i).all fun k => !AN7 h.Writes k)) (fun i => []) (fun i => [(13, AV.int i)]) (fun i => rs.length - i) (0) ?_ (G3 A8) ?_
 ·exact ⟨E2 _, rfl⟩
 intro i hinv;refine R5 ?_;refine A3 ?_ ?_
 ·intro h14;have k14 := C5 h14;have hlt : i < rs.length := by omega
  obtain ⟨x, hx⟩ := B4 hlt;refine R5 ?_;refine A1 rfl (D3 rfl E3 I2 (A0 rfl) (A0 rfl) hx qz2) ?_;refine R8 ?_;refine A1 rfl (A5 rfl Tryz.call281 rfl (BA3 _ _) F0) ?_;refine R1 ?_;refine A3 ?_ ?_
  ·intro h20;have hfin : apart h rs ws = false := by (unfold apart; rw [hinv.2, I8 hx, p8, h20]; rfl)
   refine R5 ?_;exact D6 rfl (A6 rfl BG0)
  intro h20;refine R5 ?_;refine G4 i (i + 1) ?_ ?_ (G3 A8)
  ·exact ⟨by omega, by rw [hinv.2, I8 hx, p8, h20]; rfl⟩
  omega
 intro h14;have k14 := B9 h14;have hge : rs.length ≤ i := by omega
 have hr : (rs.all fun k => !AN7 h.Writes k) = true := by (rw [hinv.2, k6 hge]; rfl)
 refine R9 ?_;refine F2 [(3, _), (22, _), (23, _)] _ (fun (q : Nat) => q ≤ ws.length ∧ (ws.all fun w => !(AN7 h.Writes w.Key || BE9 h.Reads w.Key)) = ((ws.drop q).all fun w => !(AN7 h.Writes w.Key || BE9 h.Reads w.Key))) (fun q => []) (fun q => [(24, AV.int q)]) (fun q => ws.length - q) (0) ?_ (G3 A8) ?_
 ·exact ⟨E2 _, rfl⟩
 intro q hinv;refine R5 ?_;refine A3 ?_ ?_
 ·intro h25;have k25 := C5 h25;have hlt : q < ws.length := by omega
  obtain ⟨x, hx⟩ := B4 hlt;refine R5 ?_;refine A1 rfl (D3 rfl D7 H0 (A0 rfl) (A0 rfl) hx qz2) ?_;refine R2 ?_;intro b10;refine R8 ?_;refine A1 rfl (A5 rfl Tryz.call281 rfl (BA3 _ _) F0) ?_;refine R5 ?_;refine Q7 rfl (fun hc => A5 rfl Tryz.call298 rfl (Bt8 _ _) (A2 (A9 rfl hc) (A2 (A9 rfl hc) B0))) ?_;refine R2 ?_;refine A3 ?_ ?_
  ·intro h39;have hfin : apart h rs ws = false := by (unfold apart; rw [hinv.2, I8 hx, p8, h39]; simp)
   refine R5 ?_;exact D6 rfl (A6 rfl BG0)
  intro h39;refine R5 ?_;refine G4 q (q + 1) ?_ ?_ (S5 1 A8)
  ·exact ⟨by omega, by rw [hinv.2, I8 hx, p8, h39]; rfl⟩
  omega
 intro h25;have k25 := B9 h25;have hge : ws.length ≤ q := by omega
 have hfin : apart h rs ws = true := by (unfold apart; rw [hr, hinv.2, k6 hge]; rfl)
 refine R6 ?_;exact D6 rfl (A6 rfl BG0)
theorem Cj2 (l : List D1) (q : Nat) : (hWs (l.take q)).length ≤ (hWs l).length := by
  have h := BR9 (l.take q) (l.drop q);rw [Ab0] at h;rw [h, H3]; omega
theorem Bt9 (s : D9) (ws : List A4) (hs : s.size ≤ 1048576) (hb : s.Cells.length + ws.length + (hWs s.Held).length ≤ 800000) : E1 261 [AV.agg s.cs, AV.list 3 (ws.map A4.cs)] (AV.bool (room s.Cells (ws ++ hWs s.Held))) := by
 obtain ⟨hs1, hs2, hs3, hs4, hs5⟩ := AA3 hs;obtain ⟨p, hp⟩ : ∃ p : A4 → Bool, p = fun w => !Ab2 s.Cells w.Key := ⟨_, rfl⟩;obtain ⟨al, hal⟩ : ∃ al, ws ++ hWs s.Held = al := ⟨_, rfl⟩;have hall : al.length ≤ 800000 - s.Cells.length := by rw [← hal, H3]; omega
 rw [hal];refine B3 Tryz.func261 rfl Tryz.ntmps261 rfl ?_;refine R3 ?_;intro b2;refine R4 ?_;refine c7 9 1 rfl rfl rfl rfl I9 ?_;intro v5;refine R10 ?_;refine J0 [(1, _), (2, _), (4, _), (15, _), (16, _)] _ (fun (i : Nat) (v : Value) => i ≤ s.Cells.length) (fun i v => [.arr v 9 1 ((w3 (n2 (s.Cells.take i)) []).map fun s => [AV.str s])]) (fun i v => [(5, AV.is v), (17, AV.int i)]) (fun i v => s.Cells.length - i) (0) (v5) ?_ (K1 C1 A8) ?_
 ·exact E2 _
 intro i v hinv;refine R5 ?_;refine A3 ?_ ?_
 ·intro h18;have k18 := C5 h18;have hlt : i < s.Cells.length := by omega
  obtain ⟨c, hx⟩ := B4 hlt;have hpl := Ai3 (n2 (s.Cells.take i)) [];unfold n2 at hpl;simp only [A7, F4, Q1] at hpl;refine R5 ?_;refine A1 rfl (D3 rfl D2 I1 (A0 rfl) (A0 rfl) hx qz2) ?_;refine R2 ?_;intro b7;refine R6 ?_;refine F8 [1] rfl rfl rfl rfl Tryz.call155 rfl (Ag6 v (w3 (n2 (s.Cells.take i)) []) c.Key (AZ7 List.Pairwise.nil).1 (by unfold n2; omega)) F0 rfl ?_;intro x24 ok24;refine R6 ?_;refine G8 i v (i + 1) (x24) ?_ ?_ (Le.trans (B8 [1, 0] rfl) (E5 1 (by exact C3 (fun z => Own.arr _ 9 1 (List.map (fun s => [AV.str s]) z) :: _) (by unfold n2; rw [T5, hx, X1]; exact (An0 _ _ _).symm)) A8))
  ·omega
  omega
 intro h18;have k18 := B9 h18;have hge : s.Cells.length ≤ i := by omega
 rw [P8 hge];refine R3 ?_;refine P6 rfl rfl rfl rfl D7 H0 ?_;intro v26;refine R1 ?_;refine H4 (by' := 40) 0 rfl rfl rfl rfl D7 Tryz.type67 rfl rfl rfl rfl rfl rfl (A0 rfl) (A0 rfl) rfl BP3 ?_;intro v28_1;refine R11 ?_;refine W7 [(2, _), (4, _), (5, _), (30, _), (31, _)] _ (fun (q : Nat) (u : Value) (a : List A4) => q ≤ s.Held.length ∧ a = ws ++ hWs (s.Held.take q)) (fun q u a => [.arr u 67 3 (a.map A4.cs)]) (fun q u a => [(8, AV.is u), (32, AV.int q)]) (fun q u a => s.Held.length - q) (0) (v28_1) (ws) ?_ (K1 C1 A8) ?_
 ·exact ⟨E2 _, by rw [List.take_zero]; exact (Q6 _).symm⟩
 intro q u a hinv;refine R5 ?_;refine A3 ?_ ?_
 ·intro h33;have k33 := C5 h33;have hlt : q < s.Held.length := by omega
  obtain ⟨h, hx⟩ := B4 hlt;obtain ⟨g1, g2, g3, g4, g5⟩ := AI6 hs2 hx;have hwt := Cj2 s.Held q;have hal9 : a.length ≤ 800000 := by (rw [hinv.2, H3]; omega)
  refine R5 ?_;refine A1 rfl (D3 rfl F5 M2 (A0 rfl) (A0 rfl) hx qz2) ?_;refine R2 ?_;intro b10;refine R6 ?_;refine H4 (by' := 40) 1 rfl rfl rfl rfl D7 Tryz.type67 rfl rfl rfl rfl rfl rfl (A0 rfl) (A0 rfl) rfl (by simp only [H3, A7]; omega) ?_;intro v39_2;refine R6 ?_;refine S7 q u a (q + 1) (v39_2) (a ++ h.Writes) ?_ ?_ (Le.trans (B8 [0, 0] rfl) (E5 1 Ay6 A8))
  ·exact ⟨by omega, by rw [hinv.2, CY3 hx, f4]⟩
  omega
 intro h33;have k33 := B9 h33;have hge : s.Held.length ≤ q := by omega
 have ha9 : a = al := by (rw [hinv.2, P8 hge, hal])
 subst ha9;refine R9 ?_;refine AWP.le (B8 [1] rfl) ?_;refine W7 [(2, _), (41, _), (42, _)] _ (fun (r : Nat) (v2 : Value) (ks : List Str) => r ≤ a.length ∧ a.all p = (a.drop r).all p ∧ ks = w3 (n2 s.Cells ++ Q3 (a.take r)) []) (fun r v2 ks => [.arr v2 9 1 (ks.map fun s => [AV.str s])]) (fun r v2 ks => [(5, AV.is v2), (43, AV.int r)]) (fun r v2 ks => a.length - r) (0) (v) (w3 (n2 s.Cells) []) ?_ (K1 C1 A8) ?_
 ·exact ⟨E2 _, rfl, by rw [List.take_zero]; exact C3 (fun z => w3 z []) (Q6 _).symm⟩
 intro r v2 ks hinv;refine R5 ?_;refine A3 ?_ ?_
 ·intro h44;have k44 := C5 h44;have hlt : r < a.length := by omega
  obtain ⟨w, hx⟩ := B4 hlt;obtain ⟨c, hc0⟩ := at_some s.Cells w.Key;have hfu := fullC_at (l := s.Cells) (k := w.Key) (c := c) (fun h9 => (hc0 h9).2);have hpl := Ai3 (n2 s.Cells ++ Q3 (a.take r)) [];unfold n2 Q3 at hpl;simp only [H3, A7, F4, Q1] at hpl;refine R5 ?_;refine A1 rfl (H6 1 rfl D7 H0 (A0 rfl) rfl (A0 rfl) qz8 (by try simp only [A7]; omega)) ?_;refine A1 rfl (n6 1 rfl (A0 rfl) rfl Tryz.isAgg67 H0 (by rw [l4, X2, hx]; rfl) F1) ?_;refine R1 ?_;intro b12;refine R7 ?_;refine F8 [1] rfl rfl rfl rfl Tryz.call155 rfl (Ag6 v2 ks w.Key (by rw [hinv.2.2]; exact (AZ7 List.Pairwise.nil).1) (by rw [hinv.2.2]; unfold n2 Q3; omega)) F0 rfl ?_;intro x50 ok50;refine R8 ?_;refine A1 rfl (A5 rfl Tryz.call282 rfl (Ba3 _ _) F0) ?_;refine R10 ?_;refine L6 rfl (fun hc => AT8 rfl D2 I1 (A9 rfl hc) (A9 rfl hc) (by have h9 := r3 hc; obtain ⟨⟨p9, e1, e2⟩, _⟩ := hc0 qz8; have := (E9.1 e2).1; omega) (by have h9 := r3 hc; obtain ⟨⟨p9, e1, e2⟩, _⟩ := hc0 qz8; rw [e1, l4, X2, e2]; rfl)) ?_;refine R6 ?_;refine A3 ?_ ?_
  ·intro h67;have hpw : p w = false := by (rw [hp]; simp only [AD5]; rw [hfu]; rw [A7] at h67; exact h67)
   have hro : room s.Cells a = false := by (unfold room; rw [show (a.all fun w => !Ab2 s.Cells w.Key) = false from by rw [← hp, hinv.2.1, I8 hx, p8, hpw]; rfl]; rfl)
   refine R5 ?_;exact D6 rfl (A6 rfl qz155)
  intro h67;have hpw : p w = true := by (rw [hp]; simp only [i6]; rw [hfu]; rw [A7] at h67; exact h67)
  refine R5 ?_;refine S7 r v2 ks (r + 1) (x50) (u4 ks w.Key) ?_ ?_ (Le.trans (B8 [1, 0] rfl) (E5 1 C1 A8))
  ·exact ⟨by omega, by rw [hinv.2.1, I8 hx, p8, hpw]; rfl, by rw [hinv.2.2]; unfold Q3; rw [T5, hx, X1, ← f4]; exact (An0 _ _ _).symm⟩
  omega
 intro h44;have k44 := B9 h44;have hge : a.length ≤ r := by omega
 have hks := hinv.2.2;rw [P8 hge] at hks;have hro : room s.Cells a = decide (ks.length ≤ 24) := by (unfold room Ai8; rw [← hp, hinv.2.1, k6 hge, CI4, ← hks]; rfl)
 refine R9 ?_;exact D6 rfl (A6 rfl qz155)
theorem Cv0 (s : D9) (ws : List A4) (hs : s.size ≤ 400000) (hw : C7 A4.size ws ≤ 400000) : E1 261 [AV.agg s.cs, AV.list 3 (ws.map A4.cs)] (AV.bool (room s.Cells (ws ++ hWs s.Held))) := by
  have hsum : C7 B1.size s.Cells + C7 D1.size s.Held ≤ 400000 := by have h9 : s.size = C7 B1.size s.Cells + C7 D1.size s.Held + s.Told.length := rfl; omega
  have hcl := L9 (f := B1.size) (l := s.Cells);have hwl := L9 (f := A4.size) (l := ws);have hhl := CD1 (l := s.Held);exact Bt9 s ws qz8 qz8
theorem CK1 : ∀ {l : List D1}, (∀ h ∈ l, S1 (AT4 h) = true) → (hWs l).length ≤ 400 * l.length
  | [], _ => K5 _
  | h :: l, hg => by
    have ih := CK1 fun k hk => hg k (Q2 h hk);have h1 := AP7 (hg h Y9);have h4 := L9 (f := A4.size) (l := h.Writes);have h2 : (AT4 h).size = C7 (fun x => x.length) h.Reads + C7 A4.size h.Writes := rfl;rw [As0, H3, H8]; omega
theorem Cv1 {s : D9} (h : BL6 s.Held.length (Ai9 s) = true) : ∀ k ∈ s.Held, S1 (AT4 k) = true := fun k hk => by
  obtain ⟨i, hi⟩ := X9 hk;have h9 := BD5.1 h i (E9.1 hi).1;unfold Ai9 at h9;rw [hi] at h9;simp only [E8] at h9;exact h9.1.1.1.1
theorem Ad8 (s : D9) (n : Int) (hlen : s.Held.length ≤ 1048576) : E1 203 [AV.agg s.cs, AV.int n] (AV.tup [AV.agg (AL3 s.Held n).1.cs, AV.bool (AL3 s.Held n).2]) := by
 obtain ⟨l, hl⟩ : ∃ l, s.Held = l := ⟨_, rfl⟩;have hcs : s.cs = [AV.int s.Floor, AV.list 2 (s.Cells.map B1.cs), AV.list 5 (l.map D1.cs), AV.list 3 (s.Told.map N1.cs)] := by rw [← hl]; rfl
 rw [hl] at hlen;rw [hl, hcs];refine B3 Tryz.func203 rfl Tryz.ntmps203 rfl ?_;refine R3 ?_;intro b2;refine R1 ?_;intro b4;refine R11 ?_;refine F2 [(1, _), (4, _), (9, _), (10, _)] _ (fun (i : Nat) => i ≤ l.length ∧ ∀ j y, j < i → l[j]? = some y → (y.Txn == n) = false) (fun i => []) (fun i => [(11, AV.int i)]) (fun i => l.length - i) (0) ?_ (G3 A8) ?_
 ·exact ⟨E2 _, fun j y hj => by omega⟩
 intro i hinv;refine R5 ?_;refine A3 ?_ ?_
 ·intro h12;have k12 := C5 h12;have hlt : i < l.length := by omega
  obtain ⟨x, hx⟩ := B4 hlt;refine R5 ?_;refine A1 rfl (D3 rfl F5 M2 (A0 rfl) (A0 rfl) hx qz2) ?_;refine R2 ?_;intro b7;refine R9 ?_;refine A3 ?_ ?_
  ·intro h18;have he : AL3 l n = (x, true) := by (unfold AL3 AB3; rw [BS9 hx h18 hinv.2])
   rw [he];refine R7 ?_;exact f7 rfl F1 (I3 (F3 (ys := _) 1 rfl rfl AV5 M2 rfl) X8)
  intro h18;refine R5 ?_;refine G4 i (i + 1) ?_ ?_ (S5 1 A8)
  ·exact ⟨by omega, fun j y hj hy => if hji : j < i then hinv.2 j y hji hy else qz180⟩
  omega
 intro h12;have k12 := B9 h12;have hge : l.length ≤ i := by omega
 have he : AL3 l n = (zHeld, false) := by (unfold AL3 AB3; rw [CZ8 fun j y hy => hinv.2 j y (Nat.lt_of_lt_of_le (E9.1 hy).1 hge) hy])
 rw [he];refine R8 ?_;refine BK1 0 3 1 rfl rfl ?_;refine BK1 0 4 3 rfl rfl ?_;exact f7 rfl F1 (I3 (F3 (ys := _) 0 rfl rfl AV5 M2 rfl) X8)
theorem AN5 (s : D9) (n : Int) (hlen : s.Told.length ≤ 1048576) : E1 204 [AV.agg s.cs, AV.int n] (AV.tup [AV.agg (Ae9 s.Told n).1.cs, AV.bool (Ae9 s.Told n).2]) := by
 obtain ⟨l, hl⟩ : ∃ l, s.Told = l := ⟨_, rfl⟩;have hcs : s.cs = [AV.int s.Floor, AV.list 2 (s.Cells.map B1.cs), AV.list 5 (s.Held.map D1.cs), AV.list 3 (l.map N1.cs)] := by rw [← hl]; rfl
 rw [hl] at hlen;rw [hl, hcs];refine B3 Tryz.func204 rfl Tryz.ntmps204 rfl ?_;refine R3 ?_;intro b2;refine R1 ?_;intro b4;refine R11 ?_;refine F2 [(1, _), (4, _), (9, _), (10, _)] _ (fun (i : Nat) => i ≤ l.length ∧ ∀ j y, j < i → l[j]? = some y → (y.Txn == n) = false) (fun i => []) (fun i => [(11, AV.int i)]) (fun i => l.length - i) (0) ?_ (G3 A8) ?_
 ·exact ⟨E2 _, fun j y hj => by omega⟩
 intro i hinv;refine R5 ?_;refine A3 ?_ ?_
 ·intro h12;have k12 := C5 h12;have hlt : i < l.length := by omega
  obtain ⟨x, hx⟩ := B4 hlt;refine R5 ?_;refine A1 rfl (D3 rfl P7 Y1 (A0 rfl) (A0 rfl) hx qz2) ?_;refine R2 ?_;intro b7;refine R9 ?_;refine A3 ?_ ?_
  ·intro h18;have he : Ae9 l n = (x, true) := by (unfold Ae9 BV2; rw [BS9 hx h18 hinv.2])
   rw [he];refine R7 ?_;exact f7 rfl F1 (I3 (F3 (ys := _) 1 rfl rfl Tryz.isAgg244 Y1 rfl) X8)
  intro h18;refine R5 ?_;refine G4 i (i + 1) ?_ ?_ (S5 1 A8)
  ·exact ⟨by omega, fun j y hj hy => if hji : j < i then hinv.2 j y hji hy else qz180⟩
  omega
 intro h12;have k12 := B9 h12;have hge : l.length ≤ i := by omega
 have he : Ae9 l n = (zTold, false) := by (unfold Ae9 BV2; rw [CZ8 fun j y hy => hinv.2 j y (Nat.lt_of_lt_of_le (E9.1 hy).1 hge) hy])
 rw [he];refine R8 ?_;exact f7 rfl F1 (I3 (F3 (ys := _) 0 rfl rfl Tryz.isAgg244 Y1 rfl) X8)
theorem CO4 (s : D9) (ho : AH8 s.Cells) (hcl : s.Cells.length ≤ 400000) (hs : s.size ≤ 1048576) : E1 358 [AV.agg s.cs] (AV.bool (Aa3 s)) := by
 obtain ⟨hs1, hs2, hs3, hs4, hs5⟩ := AA3 hs;refine B3 Tryz.func358 rfl Tryz.ntmps358 rfl ?_;refine R3 ?_;intro b1;refine R11 ?_;refine F2 [(1, _), (10, _), (11, _)] _ (fun (i : Nat) => i ≤ s.Held.length ∧ ∀ j, j < i → Ai9 s j = true) (fun i => []) (fun i => [(12, AV.int i)]) (fun i => s.Held.length - i) (0) ?_ (G3 A8) ?_
 ·exact ⟨E2 _, fun j hj => by omega⟩
 intro i hinv;refine R5 ?_;refine A3 ?_ ?_
 ·intro h13;have k13 := C5 h13;have hlt : i < s.Held.length := by omega
  obtain ⟨h, hx⟩ := B4 hlt;obtain ⟨y, hy⟩ := B4 (show i - 1 < s.Held.length by omega);obtain ⟨g1, g2, g3, g4, g5⟩ := AI6 hs2 hx;have hinv0 := hinv;refine R6 ?_;refine A1 rfl (D3 rfl F5 M2 (A0 rfl) (A0 rfl) hx qz2) ?_;refine R2 ?_;intro b4;refine R7 ?_;refine C0 rfl rfl (A5 rfl Tryz.call360 rfl (CO3 _) J3) ?_;refine C0 rfl rfl (A5 rfl Tryz.call165 rfl (Bj4 _ W1) (A2 (A0 rfl) B0)) ?_;refine R16 ?_;refine Q4 rfl (X4 rfl rfl rfl) (fun hc => D3 rfl F5 M2 (A9 rfl hc) (A9 rfl hc) hy qz6) ?_;refine R8 ?_;refine A3 ?_ ?_
  ·intro h43;have hfin : Aa3 s = false := by (unfold Aa3; rw [An1 hlt (by rw [BA1 hx hy, h43]; rfl)]; rfl)
   refine R5 ?_;exact D6 rfl (A6 rfl qz55)
  intro h43;refine R7 ?_;refine A1 rfl (AG9 rfl F5 M2 (A0 rfl) (A0 rfl) qz2 qz2) ?_;refine R4 ?_;refine F2 [(1, _), (3, _), (4, _), (10, _), (11, _), (12, _), (13, _), (14, _), (15, _), (16, _), (17, _), (18, _), (19, _), (20, _), (21, _), (27, _), (28, _), (43, _), (44, _), (45, _), (46, _), (47, _), (48, _)] _ (fun (q : Nat) => q ≤ (s.Held.take i).length ∧ ((s.Held.take i).all fun g => apart g h.Reads h.Writes) = (((s.Held.take i).drop q).all fun g => apart g h.Reads h.Writes)) (fun q => []) (fun q => [(49, AV.int q)]) (fun q => (s.Held.take i).length - q) (0) ?_ (G3 A8) ?_
  ·exact ⟨E2 _, rfl⟩
  intro q hinv;refine R5 ?_;refine A3 ?_ ?_
  ·intro h50;have k50 := C5 h50;have hlt2 : q < (s.Held.take i).length := by (simp only [F4, A7, l4] at k50 ⊢; omega)
   obtain ⟨k, hx2⟩ := B4 hlt2;refine R5 ?_;refine A1 rfl (D3 rfl F5 M2 (A0 rfl) (A0 rfl) hx2 qz2) ?_;refine R2 ?_;intro b6;refine R9 ?_;refine A1 rfl (A5 rfl Tryz.call260 rfl (apart_spec _ _ _) AA5) ?_;refine R2 ?_;refine A3 ?_ ?_
   ·intro h59;have hfin : Aa3 s = false := by (unfold Aa3; rw [An1 hlt (by rw [BA1 hx hy, hinv.2, I8 hx2, p8, show apart k h.Reads h.Writes = false by simpa using h59]; simp)]; rfl)
    refine R5 ?_;exact D6 rfl (A6 rfl qz55)
   intro h59;refine R5 ?_;refine G4 q (q + 1) ?_ ?_ (S5 1 A8)
   ·exact ⟨by omega, by rw [hinv.2, I8 hx2, p8, show apart k h.Reads h.Writes = true by simpa using h59]; rfl⟩
   omega
  intro h50;have k50 := B9 h50;have hge2 : (s.Held.take i).length ≤ q := by (simp only [F4, A7, l4] at k50 ⊢; omega)
  have hap : ((s.Held.take i).all fun g => apart g h.Reads h.Writes) = true := by (rw [hinv.2, k6 hge2]; rfl)
  refine R9 ?_;refine F2 [(1, _), (3, _), (4, _), (10, _), (11, _), (12, _), (13, _), (14, _), (15, _), (16, _), (17, _), (18, _), (19, _), (20, _), (21, _), (27, _), (28, _), (43, _), (44, _), (45, _), (46, _), (47, _), (48, _), (49, _), (50, _), (61, _), (62, _), (63, _)] _ (fun (r : Nat) => r ≤ h.Writes.length ∧ (h.Writes.all fun w => decide (N8 s.Cells w.Key < h.Time)) = ((h.Writes.drop r).all fun w => decide (N8 s.Cells w.Key < h.Time))) (fun r => []) (fun r => [(64, AV.int r)]) (fun r => h.Writes.length - r) (0) ?_ (G3 A8) ?_
  ·exact ⟨E2 _, rfl⟩
  intro r hinv;refine R5 ?_;refine A3 ?_ ?_
  ·intro h65;have k65 := C5 h65;have hlt3 : r < h.Writes.length := by omega
   obtain ⟨w, hw⟩ := B4 hlt3;refine R5 ?_;refine A1 rfl (D3 rfl D7 H0 (A0 rfl) (A0 rfl) hw qz2) ?_;refine R2 ?_;intro b8;refine R8 ?_;refine C0 rfl rfl (A5 rfl Tryz.call262 rfl (BK9 _ _ (by first | assumption | exact AU7 (by rw [AC6]; assumption)) W1) (A2 (A0 rfl) (A2 (A0 rfl) B0))) ?_;refine R4 ?_;refine A3 ?_ ?_
   ·intro h75;have k75 := C5 h75;have hfin : Aa3 s = false := by (unfold Aa3; rw [An1 hlt (by rw [BA1 hx hy, hinv.2, I8 hw, p8, AJ6 (show ¬ N8 s.Cells w.Key < h.Time by omega)]; simp)]; rfl)
    refine R5 ?_;exact D6 rfl (A6 rfl qz55)
   intro h75;have k75 := B9 h75;refine R5 ?_;refine G4 r (r + 1) ?_ ?_ (S5 1 A8)
   ·exact ⟨by omega, by rw [hinv.2, I8 hw, p8, i7 (show N8 s.Cells w.Key < h.Time by omega)]; rfl⟩
   omega
  intro h65;have k65 := B9 h65;have hge3 : h.Writes.length ≤ r := by omega
  have hlw : (h.Writes.all fun w => decide (N8 s.Cells w.Key < h.Time)) = true := by (rw [hinv.2, k6 hge3]; rfl)
  refine R5 ?_;refine G4 i (i + 1) ?_ ?_ (S5 1 A8)
  ·exact ⟨by omega, fun j hj => if hji : j < i then hinv0.2 j hji else (by have e : j = i := qz8; subst e; rw [BA1 hx hy, h43, hap, hlw]; rfl)⟩
  omega
 intro h13;have k13 := B9 h13;have hall : BL6 s.Held.length (Ai9 s) = true := BD5.2 fun j hj => hinv.2 j qz8;refine R9 ?_;refine L6 rfl (fun hc => A5 rfl Tryz.call261 rfl (Bt9 s [] hs (by (have h9 := CK1 (Cv1 hall); have h8 := r3 hc; simp only [A7] at h8; simp only [Q1]; omega))) (A2 (A9 rfl hc) (A2 Y5 B0))) ?_;refine R4 ?_;exact D6 rfl (A6 rfl qz55)
theorem Bu0 (s : D9) (hs : s.size ≤ 1048576) : E1 351 [AV.agg s.cs] (AV.bool (j8 s)) := by
 obtain ⟨hs1, hs2, hs3, hs4, hs5⟩ := AA3 hs;refine B3 Tryz.func351 rfl Tryz.ntmps351 rfl ?_;refine R3 ?_;intro b1;refine R7 ?_;refine A1 rfl (A5 rfl Tryz.call25 rfl (AT1 _) J3) ?_;refine R4 ?_;refine Q7 rfl (fun hc => A5 rfl Tryz.call263 rfl (Bj2 _ W1) (A2 (A9 rfl hc) B0)) ?_;refine R4 ?_;refine Q7 rfl (fun hc => A5 rfl Tryz.call358 rfl (CO4 s (AU7 (by have h9 := hc; simp at h9; rw [AC6]; exact h9.2)) (by have h9 := hc; simp at h9; have h8 := (W6 (by rw [AC6]; exact h9.2)).1; omega) hs) (A2 (A9 rfl hc) B0)) ?_;refine R9 ?_;refine A3 ?_ ?_
 ·intro h29;have hfin : j8 s = false := by (unfold j8; simp only [AA9, i6, H1, A7] at h29; rcases h29 with ((h | h) | h) | h; (rw [h]; rfl); (rw [AC6, h]; simp); (rw [h]; simp); (rw [AJ6 (show ¬ s.Told.length ≤ 60 by omega)]; simp))
  refine R5 ?_;exact D6 rfl (A6 rfl BG0)
 intro h29;simp only [r5, AD5, w5, A7] at h29;obtain ⟨⟨⟨q1, q2⟩, q3⟩, q4⟩ := h29;have hco := AU7 (by rw [AC6]; exact q2);have hgs : j8 s = ((s.Cells.all fun c => decide (N8 s.Cells c.Key ≤ s.Floor)) && BL6 s.Told.length (Ap4 s)) := by (unfold j8; rw [q1, AC6, q2, q3, i7 (show s.Told.length ≤ 60 by omega)]; simp)
 refine R10 ?_;refine F2 [(1, _), (31, _), (32, _)] _ (fun (i : Nat) => i ≤ s.Cells.length ∧ (s.Cells.all fun c => decide (N8 s.Cells c.Key ≤ s.Floor)) = ((s.Cells.drop i).all fun c => decide (N8 s.Cells c.Key ≤ s.Floor))) (fun i => []) (fun i => [(33, AV.int i)]) (fun i => s.Cells.length - i) (0) ?_ (G3 A8) ?_
 ·exact ⟨E2 _, rfl⟩
 intro i hinv;refine R5 ?_;refine A3 ?_ ?_
 ·intro h34;have k34 := C5 h34;have hlt : i < s.Cells.length := by omega
  obtain ⟨c, hx⟩ := B4 hlt;refine R5 ?_;refine A1 rfl (D3 rfl D2 I1 (A0 rfl) (A0 rfl) hx qz2) ?_;refine R2 ?_;intro b4;refine R8 ?_;refine C0 rfl rfl (A5 rfl Tryz.call262 rfl (BK9 _ _ (by first | assumption | exact AU7 (by rw [AC6]; assumption)) W1) (A2 (A0 rfl) (A2 (A0 rfl) B0))) ?_;refine R4 ?_;refine A3 ?_ ?_
  ·intro h44;have k44 := C5 h44;have hfin : j8 s = false := by (rw [hgs, hinv.2, I8 hx, p8, AJ6 (show ¬ N8 s.Cells c.Key ≤ s.Floor by omega)]; rfl)
   refine R5 ?_;exact D6 rfl (A6 rfl BG0)
  intro h44;have k44 := B9 h44;refine R5 ?_;refine G4 i (i + 1) ?_ ?_ (S5 1 A8)
  ·exact ⟨by omega, by rw [hinv.2, I8 hx, p8, i7 (show N8 s.Cells c.Key ≤ s.Floor by omega)]; rfl⟩
  omega
 intro h34;have k34 := B9 h34;have hge : s.Cells.length ≤ i := by omega
 have hgs2 : j8 s = BL6 s.Told.length (Ap4 s) := by (rw [hgs, hinv.2, k6 hge]; rfl)
 refine R10 ?_;refine F2 [(1, _), (47, _), (48, _)] _ (fun (q : Nat) => q ≤ s.Told.length ∧ ∀ j, j < q → Ap4 s j = true) (fun q => []) (fun q => [(49, AV.int q)]) (fun q => s.Told.length - q) (0) ?_ (G3 A8) ?_
 ·exact ⟨E2 _, fun j hj => by omega⟩
 intro q hinv;refine R5 ?_;refine A3 ?_ ?_
 ·intro h50;have k50 := C5 h50;have hlt : q < s.Told.length := by omega
  obtain ⟨t, hx⟩ := B4 hlt;obtain ⟨y, hy⟩ := B4 (show q - 1 < s.Told.length by omega);refine R6 ?_;refine A1 rfl (D3 rfl P7 Y1 (A0 rfl) (A0 rfl) hx qz2) ?_;refine R2 ?_;intro b6;refine R8 ?_;refine C0 rfl rfl (A5 rfl Tryz.call24 rfl (P3 _ _ _) AJ2) ?_;refine R9 ?_;refine Q4 rfl (X4 rfl rfl rfl) (fun hc => D3 rfl P7 Y1 (A9 rfl hc) (A9 rfl hc) hy qz6) ?_;refine R15 ?_;refine Q4 rfl (X4 rfl rfl rfl) (fun hc => A5 rfl Tryz.call24 rfl (P3 _ _ _) (A2 (A9 rfl hc) (A2 L1 (A2 (A9 rfl hc) B0)))) ?_;refine R14 ?_;refine A3 ?_ ?_
  ·intro h95;have hfin : j8 s = false := by (rw [hgs2]; exact An1 hlt (by rw [BS8 hx hy, h95]; rfl))
   refine R5 ?_;exact D6 rfl (A6 rfl BG0)
  intro h95;refine R6 ?_;refine A1 rfl (A5 rfl Tryz.call203 rfl (Ad8 _ _ W1) (A2 (A0 rfl) (A2 (A0 rfl) B0))) ?_;refine R4 ?_;intro b7;refine R7 ?_;refine A3 ?_ ?_
  ·intro h103;have hfin : j8 s = false := by (rw [hgs2]; exact An1 hlt (by rw [BS8 hx hy, ← Ba8, h103]; simp))
   refine R5 ?_;exact D6 rfl (A6 rfl BG0)
  intro h103;refine R5 ?_;refine G4 q (q + 1) ?_ ?_ (S5 2 A8)
  ·exact ⟨by omega, fun j hj => if hji : j < q then hinv.2 j hji else (by have e : j = q := qz8; subst e; rw [BS8 hx hy, h95, ← Ba8, h103]; rfl)⟩
  omega
 intro h50;have k50 := B9 h50;have hge : s.Told.length ≤ q := by omega
 have hfin : j8 s = true := by (rw [hgs2]; exact BD5.2 fun j hj => hinv.2 j qz8)
 refine R6 ?_;exact D6 rfl (A6 rfl BG0)
end Go.PQ
namespace Go.PQ
open Go.Proofs
open Go Go.AV Go.M
attribute [local irreducible] OpW OpA OpS AWP J6 L3 K7 OpE K2 H9 K6 Le Ev F7 M7
theorem CO5 (w : A4) : E1 79 [AV.agg w.cs] (AV.bool w.Gone) := by
  refine B3 Tryz.func79 rfl Tryz.ntmps79 rfl ?_;refine R3 ?_;intro b1;refine R9 ?_;exact D6 rfl (A6 rfl qz9)
theorem An5 (v : Value) (l : List A4) (w : A4) (hl : l.length ≤ 4194303) : M1 21 [AV.is v, AV.agg w.cs] [.arr v 67 3 (l.map A4.cs)] (fun _ : Value => True) (fun v => [.arr v 67 3 ((Ak7 l w).map A4.cs)]) (fun v => AV.is v) := by
 have hle := Co5 l w.Key;refine C8 Tryz.func21 rfl Tryz.ntmps21 rfl ?_;refine R3 ?_;intro b3;refine A1 rfl (G1 rfl I9) ?_;refine R6 ?_;refine A1 rfl (l8 rfl Tryz.call20 rfl (As2 l w.Key qz8) (AX4 (H5 (d4 _ _) (H5 (U0 _) U5))) (P1 (Al1 1 (A0 rfl) rfl) BC5)) ?_;refine R11 ?_;refine A3 ?_ ?_
 ·intro h14;obtain ⟨y, hy, _⟩ := BR6.1 h14;have hlt := (E9.1 hy).1;have he : Ak7 l w = l.set (AT3 l w.Key) w := by unfold Ak7; rw [D0 h14]
  rw [he];refine R5 ?_;refine A1 rfl (H6 1 rfl D7 H0 (A0 rfl) rfl (A0 rfl) qz8 Be8) ?_;refine j7 1 rfl rfl rfl (A0 rfl) (A0 rfl) (Z2 _) rfl H0 rfl Be8 ?_;refine R7 ?_;exact I4 [1] v (trivial) rfl (by first | rfl | exact C3 (fun z => [Own.arr _ 67 3 z]) AB0) (M4 rfl (A6 rfl qz9))
 intro h14;have he : Ak7 l w = l.take (AT3 l w.Key) ++ w :: l.drop (AT3 l w.Key) := by unfold Ak7; rw [C6 (by rw [h14]; decide)]
 rw [he];refine R6 ?_;refine Ag0 rfl rfl rfl rfl D7 H0 Tryz.zeroValue67 rfl rfl rfl rfl (D8 (A0 rfl) (Z2 _) U1) rfl rfl ?_;intro v23;refine F8 [2, 0] rfl rfl rfl rfl Tryz.call45 rfl (Bt0 _ _ l w (AT3 l w.Key) hle qz8) (A2 (A0 rfl) (A2 (A0 rfl) (A2 (A0 rfl) B0))) rfl ?_;intro x24 ok24;refine R3 ?_;exact I4 [0] x24 (trivial) rfl (by first | rfl | exact C3 (fun z => [Own.arr _ 67 3 z]) AB0) (M4 rfl (A6 rfl qz9))
theorem Cj3 (l ws : List A4) (hl : l.length ≤ 2097151) (hw : ws.length ≤ 2097152) : M1 31 [AV.list 3 (l.map A4.cs), AV.list 3 (ws.map A4.cs)] [] (fun _ : Value => True) (fun v => [.arr v 67 3 ((AV9 l ws).1.map A4.cs)]) (fun v => AV.tup [AV.is v, AV.bool (AV9 l ws).2]) := by
 refine C8 Tryz.func31 rfl Tryz.ntmps31 rfl ?_;refine R2 ?_;refine A1 rfl (G1 rfl I9) ?_;refine R5 ?_;refine F8 [] rfl rfl rfl rfl Tryz.call77 rfl (BH5 l qz8) J3 rfl ?_;intro x10 ok10;refine R10 ?_;refine J0 [(4, _), (5, _), (11, _), (12, _)] _ (fun (i : Nat) (v : Value) => i ≤ ws.length) (fun i v => [.arr v 67 3 ((Ap0 l (ws.take i)).map A4.cs)]) (fun i v => [(6, AV.is v), (13, AV.int i)]) (fun i v => ws.length - i) (0) (x10) ?_ (K1 C1 A8) ?_
 ·exact E2 _
 intro i v hinv;refine R5 ?_;refine A3 ?_ ?_
 ·intro h14;have k14 := C5 h14;have hlt : i < ws.length := by omega
  obtain ⟨x, hx⟩ := B4 hlt;have hpl := Bm5 (ws.take i) l;rw [F4] at hpl;refine R5 ?_;refine A1 rfl (D3 rfl D7 H0 (A0 rfl) (A0 rfl) hx qz2) ?_;refine R2 ?_;intro b8;refine R5 ?_;refine F8 [1] rfl rfl rfl rfl Tryz.call21 rfl (An5 _ _ x qz8) (A2 (A0 rfl) (A2 (A0 rfl) B0)) rfl ?_;intro x19 ok19;refine R6 ?_;refine G8 i v (i + 1) (x19) ?_ ?_ (Le.trans (B8 [1] rfl) (E5 1 (by rw [show Ap0 l (ws.take (i + 1)) = Ak7 (Ap0 l (ws.take i)) x from by rw [T5, hx]; exact DA3 _ _ _]; rfl) A8))
  ·omega
  omega
 intro h14;have k14 := B9 h14;have hge : ws.length ≤ i := by omega
 rw [P8 hge];have hpl := Bm5 ws l;refine R4 ?_;refine F8 [0] rfl rfl rfl rfl Tryz.call78 rfl (BW5 _ _ _ _ (fun _ _ => trivial) qz8) (A2 (A0 rfl) (A2 (BB4 Tryz.call79 (fun w (_ : True) => CO5 w)) B0)) rfl ?_;intro x22 ok22;refine R9 ?_;refine A3 ?_ ?_
 ·intro h25;have k25 := C5 h25;have he : AV9 l ws = ([], false) := by unfold AV9 AZ2; rw [D0 (by simpa using k25)]
  rw [he];refine R2 ?_;refine A1 rfl (G1 rfl I9) ?_;refine R3 ?_;refine Y3 67 3 ?_;exact I4 [0] (E4) (trivial) rfl C1 AA6
 intro h25;have k25 := B9 h25;have he : AV9 l ws = (AZ2 (Ap0 l ws), true) := by unfold AV9 AZ2; rw [C6 (by simpa using k25)]
 rw [he];refine R8 ?_;exact I4 [0] x22 (trivial) rfl C1 AA6
theorem BT0 (l : List A4) (w : A4) (hl : l.length ≤ 4194303) : M1 61 [AV.list 3 (l.map A4.cs), AV.agg w.cs] [] (fun _ : Value => True) (fun v => [.arr v 67 3 ((BV1 l w).map A4.cs)]) (fun v => AV.is v) := by
 refine C8 Tryz.func61 rfl Tryz.ntmps61 rfl ?_;refine R3 ?_;intro b3;refine A1 rfl (G1 rfl I9) ?_;refine R9 ?_;rw [show (List.map A4.cs l).length = l.length from A7 _];refine F2 [(0, _), (3, _), (4, _)] _ (fun (i : Int) => 0 ≤ i ∧ i ≤ l.length ∧ AG2 l w.Key l.length = AG2 l w.Key i.toNat) (fun i => []) (fun i => [(5, AV.int i)]) (fun i => i.toNat) (l.length) ?_ (G3 A8) ?_
 ·exact ⟨by omega, by omega, rfl⟩
 intro i hinv;obtain ⟨y, hy⟩ := BB6 l (i - 1).toNat;refine R9 ?_;refine Q4 rfl (V1 rfl rfl rfl) (fun hc => D3 rfl D7 H0 (A9 rfl hc) (A9 rfl hc) (hy qz6) qz6) ?_;refine R4 ?_;refine Q4 rfl (V1 rfl rfl rfl) (fun hc => Bq8 rfl (A9 rfl hc) (A9 rfl hc)) ?_;refine R2 ?_;refine A3 ?_ ?_
 ·intro h22;have hb : 0 < i ∧ Op.bytesLess w.Key y.Key = true := by rw [Bg1] at h22; simpa using h22
  have hst : AG2 l w.Key l.length = AG2 l w.Key (i - 1).toNat := by rw [hinv.2.2]; obtain ⟨n, rfl⟩ : ∃ n : Nat, i = n + 1 := ⟨(i - 1).toNat, by omega⟩; rw [show ((n : Int) + 1).toNat = n + 1 by omega, show ((n : Int) + 1 - 1).toNat = n by omega]; exact Cs4 (by have := hy qz8; rwa [show ((n : Int) + 1 - 1).toNat = n by omega] at this) hb.2
  refine R7 ?_;refine Am5 ?_;refine G4 i (i - 1) ?_ ?_ (G3 A8)
  ·exact ⟨by omega, by omega, hst⟩
  omega
 intro h22;obtain ⟨k, rfl⟩ : ∃ k : Nat, i = k := ⟨i.toNat, by omega⟩;have hk : AG2 l w.Key l.length = k := by rw [hinv.2.2, l4]; rw [Bg1] at h22; rcases Nat.eq_zero_or_pos k with h0 | h0; subst h0; rfl; (obtain ⟨n, rfl⟩ : ∃ n, k = n + 1 := ⟨k - 1, by omega⟩; exact Cs5 (by have := hy qz8; rwa [show (((n + 1 : Nat) : Int) - 1).toNat = n by omega] at this) Be2)
 have hh : CF9 l w.Key k = (decide (0 < k) && (y.Key == w.Key)) := by rcases Nat.eq_zero_or_pos k with h0 | h0; subst h0; rfl; (obtain ⟨n, rfl⟩ : ∃ n, k = n + 1 := ⟨k - 1, by omega⟩; have h9 := hy qz8; rw [show (((n + 1 : Nat) : Int) - 1).toNat = n by omega] at h9; simp [CF9, h9])
 refine R10 ?_;refine Q4 rfl (V1 rfl rfl rfl) (fun hc => D3 rfl D7 H0 (A9 rfl hc) (A9 rfl hc) (hy qz6) qz6) ?_;refine R7 ?_;refine A3 ?_ ?_
 ·intro h37;have hb : 0 < k ∧ y.Key = w.Key := by simpa using h37
  have he : BV1 l w = l.set (k - 1) w := by unfold BV1; rw [hk, D0 (by rw [hh]; simp [hb])]
  rw [he];refine R2 ?_;refine P6 rfl rfl rfl rfl D7 H0 ?_;intro v38;refine R1 ?_;refine H4 (by' := 40) 0 rfl rfl rfl rfl D7 Tryz.type67 rfl rfl rfl rfl rfl rfl (A0 rfl) (A0 rfl) rfl qz2 ?_;intro v40_1;refine R8 ?_;refine A1 rfl (H6 0 rfl D7 H0 (A0 rfl) rfl (A0 rfl) qz8 (by simp only [AC0, A7]; omega)) ?_;refine j7 0 rfl rfl rfl (A0 rfl) (A0 rfl) (Z2 _) rfl H0 rfl (by simp only [AC0, A7]; omega) ?_;refine R7 ?_;exact I4 [0] v40_1 (trivial) rfl qz124 (M4 rfl (A6 rfl qz9))
 intro h37;have he : BV1 l w = l.take k ++ w :: l.drop k := by unfold BV1; rw [hk, C6 (by rw [hh]; simpa using h37)]
 rw [he];refine R3 ?_;refine P6 rfl rfl rfl rfl D7 H0 ?_;intro v47;refine R2 ?_;refine A1 rfl (BG7 rfl D7 H0 (A0 rfl) (A0 rfl) qz2 qz2) ?_;refine H4 (by' := 40) 0 rfl rfl rfl rfl D7 Tryz.type67 rfl rfl rfl rfl rfl rfl (A0 rfl) (A0 rfl) rfl CA4 ?_;intro v51_2;refine BQ5 (AK1 [0] 51 rfl rfl (K0 (C2 (i := 0) rfl) F6) U2) ?_;refine R3 ?_;refine O8 _ [(1, false), (2, false), (3, false), (5, false), (6, false), (8, false), (0, true), (4, true), (7, true), (9, true)] D4 D4 rfl AW7 ?_;refine R2 ?_;refine P4 rfl rfl rfl (fun ext => AG9 rfl D7 H0 (A0 rfl) (A0 rfl) qz2 qz2) ?_;refine R3 ?_;refine T4 rfl rfl rfl (o9 rfl D7 H0) (fun a _ => qz4) ?_;intro v52 _;refine T4 rfl rfl rfl (L4 (by' := 40) 1 rfl D7 Tryz.type67 rfl rfl rfl rfl rfl rfl (A0 rfl) (A0 rfl) rfl CA4) (fun a _ => qz4) ?_;intro v56_3 _;refine T4 rfl rfl rfl (L4 (by' := 40) 1 rfl D7 Tryz.type67 rfl rfl rfl rfl rfl rfl (A0 rfl) (A0 rfl) rfl CA4) (fun a _ => qz4) ?_;intro v59_4 _;refine T4 rfl rfl rfl (L4 (by' := 40) 1 rfl D7 Tryz.type67 rfl rfl rfl rfl rfl rfl (A0 rfl) (A0 rfl) rfl CA4) (fun a _ => qz4) ?_;intro v61_5 _;refine R4 ?_;exact I4 [1] v61_5 (trivial) rfl qz124 (M4 rfl (A6 rfl qz9))
end Go.PQ
namespace Go.PQ
open Go.Proofs
open Go Go.AV Go.M
attribute [local irreducible] OpW OpA OpS AWP J6 L3 K7 OpE K2 H9 K6 Le Ev F7
end Go.PQ
namespace Go.PQ
open Go.Proofs
open Go Go.AV Go.M
attribute [local irreducible] OpW OpA OpS AWP J6 L3 K7 OpE K2 H9 K6 Le Ev F7 M7
theorem CZ9 (a b : Int) : E1 272 [AV.int a, AV.int b] (AV.int (BE8 a b)) := by
 refine B3 Tryz.func272 rfl Tryz.ntmps272 rfl ?_;refine R11 ?_;refine A3 ?_ ?_
 ·intro h7;have k7 := C5 h7;have he : BE8 a b = a := by unfold BE8; rw [D0 k7]
  rw [he];refine R6 ?_;exact D6 rfl (A6 rfl qz9)
 intro h7;have k7 := B9 h7;have he : BE8 a b = b := by unfold BE8; rw [C6 k7]
 rw [he];refine R7 ?_;exact D6 rfl (A6 rfl qz9)
end Go.PQ
namespace Go.PQ
open Go.Proofs
open Go Go.AV Go.M
attribute [local irreducible] OpW OpA OpS AWP J6 L3 K7 OpE K2 H9 K6 Le Ev F7 M7 Int.tmod Int.tdiv IntKind.wrap
theorem Bu1 (s : D9) (rs : List Str) (ws : List A4) (hs : s.size ≤ 400000) (hw : C7 A4.size ws ≤ 400000) : E1 206 [AV.agg s.cs, strs rs, AV.list 3 (ws.map A4.cs)] (AV.bool (fits s rs ws)) := by
 obtain ⟨hs1, hs2, hs3, hs4, hs5⟩ := AA3 hs;have hrm : room s.Cells (ws ++ hWs s.Held) = room s.Cells (hWs s.Held ++ ws) := CI9 fun w => by rw [o5, o5, or_comm]
 refine B3 Tryz.func206 rfl Tryz.ntmps206 rfl ?_;refine R3 ?_;intro b3;refine R11 ?_;refine F2 [(1, _), (2, _), (3, _), (10, _), (11, _)] _ (fun (i : Nat) => i ≤ s.Held.length ∧ (s.Held.all fun h => apart h rs ws) = ((s.Held.drop i).all fun h => apart h rs ws)) (fun i => []) (fun i => [(12, AV.int i)]) (fun i => s.Held.length - i) (0) ?_ (G3 A8) ?_
 ·exact ⟨E2 _, rfl⟩
 intro i hinv;refine R5 ?_;refine A3 ?_ ?_
 ·intro h13;have k13 := C5 h13;have hlt : i < s.Held.length := by omega
  obtain ⟨h, hx⟩ := B4 hlt;refine R5 ?_;refine A1 rfl (D3 rfl F5 M2 (A0 rfl) (A0 rfl) hx qz2) ?_;refine R2 ?_;intro b8;refine R7 ?_;refine A1 rfl (A5 rfl Tryz.call260 rfl (apart_spec _ _ _) AA5) ?_;refine R2 ?_;refine A3 ?_ ?_
  ·intro h20;have hfin : fits s rs ws = false := by (unfold fits; rw [hinv.2, I8 hx, p8, show apart h rs ws = false by simpa using h20]; rfl)
   refine R5 ?_;exact D6 rfl (A6 rfl qz131)
  intro h20;refine R5 ?_;refine G4 i (i + 1) ?_ ?_ (S5 1 A8)
  ·exact ⟨by omega, by rw [hinv.2, I8 hx, p8, show apart h rs ws = true by simpa using h20]; rfl⟩
  omega
 intro h13;have k13 := B9 h13;have hge : s.Held.length ≤ i := by omega
 have hap : (s.Held.all fun h => apart h rs ws) = true := by (rw [hinv.2, k6 hge]; rfl)
 refine R10 ?_;refine L6 rfl (fun hc => A5 rfl Tryz.call261 rfl (Cv0 _ _ W1 W1) (A2 (A9 rfl hc) (A2 (A9 rfl hc) B0))) ?_;refine R4 ?_;exact D6 rfl (A6 rfl qz131)
theorem Cj4 (h : D1) (hs : h.size ≤ 1048576) : M1 259 [AV.agg h.cs] [] (fun _ : Value × Value => True) (fun x => D1.ow h x) (fun x => AV.agg (D1.ocs h x)) := by
  have h3 := L9 (f := fun x : Str => x.length) (l := h.Reads);have h4 := L9 (f := A4.size) (l := h.Writes);have h5 : h.size = C7 (fun x => x.length) h.Reads + C7 A4.size h.Writes := rfl;refine C8 Tryz.func259 rfl Tryz.ntmps259 rfl ?_;refine R3 ?_;intro b1;refine R1 ?_;intro b2;refine R5 ?_;refine F8 [] rfl rfl rfl rfl Tryz.call151 rfl (BA0 h.Reads qz8) J3 rfl ?_;intro x5 ok5;refine R1 ?_;refine O7 0 rfl fun one_x5 => ?_;refine N0 2 rfl rfl rfl (A0 rfl) (A0 rfl) (K4 one_x5) rfl z7 rfl ?_;refine R3 ?_;refine P6 rfl rfl rfl rfl D7 H0 ?_;intro v7;refine R2 ?_;refine H4 (by' := 40) 0 rfl rfl rfl rfl D7 Tryz.type67 rfl rfl rfl rfl rfl rfl (A0 rfl) (A0 rfl) rfl BP3 ?_;intro v10_1;refine R1 ?_;refine O7 0 rfl fun one_v10_1 => ?_;refine N0 3 rfl rfl rfl (A0 rfl) (A0 rfl) (K4 one_v10_1) rfl Tryz.sizeOf35 rfl ?_;refine R7 ?_;exact I4 [1, 0] (x5, v10_1) (trivial) rfl C1 (M4 rfl (F3 (ys := _) 2 rfl rfl AV5 M2 rfl))
theorem BE0 (h : D1) (hs : h.size ≤ 1048576) : E1 259 [AV.agg h.cs] (AV.agg h.cs) :=
  L5 (Cj4 h hs) fun x _ => AK8 (D1.lc h x)
theorem Cj5 (l : List B1) (hs : C7 B1.size l ≤ 4194304) : E1 258 [AV.list 2 (l.map B1.cs)] (AV.list 2 (l.map B1.cs)) :=
  L5 (CJ8 l hs) fun x h => AX7 B1.lcM h 0 rfl fun o ho => Q2 _ ho
theorem Ca0 (s : D9) (hs : s.size ≤ 1048576) : M1 202 [AV.agg s.cs] [] (fun _ : Value × Value => True) (fun x => D9.ow s x) (fun x => AV.agg (D9.ocs s x)) := by
 obtain ⟨hs1, hs2, hs3, hs4, hs5⟩ := AA3 hs;refine C8 Tryz.func202 rfl Tryz.ntmps202 rfl ?_;refine R3 ?_;intro b1;refine R1 ?_;intro b2;refine R2 ?_;refine X5 _ 11 (.pure 0 (.pure 1 (.pure 2 (.pure 3 (.pure 4 (.pure 6 (.pure 7 (.e2 5 (.e2 8 (.pure 9 (.e1 10 .nil)) 10 (.e1 8 (.pure 9 .nil))) 10 (.e1 5 (.e1 8 (.pure 9 .nil))))))))))) D4 D4 rfl AW7 ?_;refine R4 ?_;refine K9 rfl rfl rfl (fun ext => A5 rfl Tryz.call258 rfl (Cj5 s.Cells qz8) J3) ?_;refine R2 ?_;refine AL7 ?_ ?_
 ·refine I6 rfl rfl rfl (o9 rfl P7 Y1) (fun a _ => qz4) ?_;intro v11 _;refine AL7 ?_ ?_
  ·refine I6 rfl rfl rfl (T2 2 (fun _ => rfl) (L4 (by' := 24) 2 rfl P7 Tryz.type244 rfl rfl rfl rfl rfl rfl (A0 rfl) (A0 rfl) rfl BP3)) (fun a _ => qz4) ?_;intro v14_1 hone_v14_1;have one_v14_1 := hone_v14_1.2;refine K9 rfl rfl rfl (fun ext => Y6 (places := #[(0, 1), (1, 1), (2, 1), (3, 1)]) rfl d8 Tryz.zeroValue58 (fun w => by kernel_rfl) rfl (D8 (A0 rfl) (W4 _ _) (D8 (A0 rfl) (g8 _ _) (D8 (A0 rfl) (K4 one_v14_1) U1))) rfl) ?_;refine R1 ?_;refine I6 rfl rfl rfl (X3 rfl Tryz.zeroValue58 rfl) (fun a _ => qz4) ?_;intro b3 _;refine R12 ?_;refine d6 239 5 ?_;refine AWP.le (B8 [4, 0] rfl) ?_;refine J0 [(2, _), (3, _), (17, _), (18, _)] _ (fun (i : Nat) (v : Value) => i ≤ s.Held.length) (fun i v => [.box b3 58 [AV.int s.Floor, AV.list 2 (s.Cells.map B1.cs), AV.is v, AV.is v14_1], .arr v 239 5 ((s.Held.take i).map D1.cs)]) (fun i v => [(19, AV.int i)]) (fun i v => s.Held.length - i) (0) ((E4)) ?_ (K1 C1 A8) ?_
   ·exact E2 _
   intro i v hinv;refine R5 ?_;refine A3 ?_ ?_
   ·intro h20;have k20 := C5 h20;have hlt : i < s.Held.length := by omega
    obtain ⟨h, hx⟩ := B4 hlt;obtain ⟨g1, g2, g3, g4, g5⟩ := AI6 hs2 hx;refine R5 ?_;refine A1 rfl (D3 rfl F5 M2 (A0 rfl) (A0 rfl) hx qz2) ?_;refine R2 ?_;intro b5;refine R2 ?_;refine M6 5 D4 D4 rfl ?_;refine R3 ?_;refine C0 rfl rfl (A5 rfl Tryz.call259 rfl (BE0 _ W1) (A2 (A0 rfl) B0)) ?_;refine R2 ?_;refine H4 (by' := 72) 2 rfl rfl rfl rfl F5 Tryz.type239 rfl rfl rfl rfl rfl rfl (A0 rfl) (A0 rfl) rfl BW8 ?_;intro v28_2;refine R1 ?_;refine O7 2 rfl fun one_v28_2 => ?_;refine N0 1 rfl rfl rfl (A0 rfl) (A0 rfl) (K4 one_v28_2) rfl AF9 rfl ?_;refine R5 ?_;refine G8 i v (i + 1) (v28_2) ?_ ?_ (Le.trans (B8 [0, 0, 0] rfl) (E5 1 (by exact C3 (fun z => Own.box b3 58 [AV.int s.Floor, AV.list 2 (s.Cells.map B1.cs), AV.is v28_2, AV.is v14_1] :: Own.arr v28_2 239 5 z :: _) (AK2 (f := D1.cs) hx)) A8))
    ·omega
    omega
   intro h20;have k20 := B9 h20;have hge : i = s.Held.length := by omega
   rw [hge, AJ5];refine R7 ?_;exact I4 [1, 3] (v, v14_1) (trivial) rfl C1 (M4 rfl (F3 (ys := _) 2 rfl rfl P2 L0 rfl))
  refine I6 rfl rfl rfl (X3 rfl Tryz.zeroValue58 rfl) (fun a _ => qz4) ?_;intro b3 _;refine R1 ?_;refine I6 rfl rfl rfl (T2 2 (fun _ => rfl) (L4 (by' := 24) 2 rfl P7 Tryz.type244 rfl rfl rfl rfl rfl rfl (A0 rfl) (A0 rfl) rfl BP3)) (fun a _ => qz4) ?_;intro v14_3 hone_v14_3;have one_v14_3 := hone_v14_3.2;refine K9 rfl rfl rfl (fun ext => Y6 (places := #[(0, 1), (1, 1), (2, 1), (3, 1)]) rfl d8 Tryz.zeroValue58 (fun w => by kernel_rfl) rfl (D8 (A0 rfl) (W4 _ _) (D8 (A0 rfl) (g8 _ _) (D8 (A0 rfl) (K4 one_v14_3) U1))) rfl) ?_;refine R12 ?_;refine d6 239 5 ?_;refine AWP.le (B8 [4, 0] rfl) ?_;refine J0 [(2, _), (3, _), (17, _), (18, _)] _ (fun (i : Nat) (v : Value) => i ≤ s.Held.length) (fun i v => [.box b3 58 [AV.int s.Floor, AV.list 2 (s.Cells.map B1.cs), AV.is v, AV.is v14_3], .arr v 239 5 ((s.Held.take i).map D1.cs)]) (fun i v => [(19, AV.int i)]) (fun i v => s.Held.length - i) (0) ((E4)) ?_ (K1 C1 A8) ?_
  ·exact E2 _
  intro i v hinv;refine R5 ?_;refine A3 ?_ ?_
  ·intro h20;have k20 := C5 h20;have hlt : i < s.Held.length := by omega
   obtain ⟨h, hx⟩ := B4 hlt;obtain ⟨g1, g2, g3, g4, g5⟩ := AI6 hs2 hx;refine R5 ?_;refine A1 rfl (D3 rfl F5 M2 (A0 rfl) (A0 rfl) hx qz2) ?_;refine R2 ?_;intro b5;refine R2 ?_;refine M6 5 D4 D4 rfl ?_;refine R3 ?_;refine C0 rfl rfl (A5 rfl Tryz.call259 rfl (BE0 _ W1) (A2 (A0 rfl) B0)) ?_;refine R2 ?_;refine H4 (by' := 72) 2 rfl rfl rfl rfl F5 Tryz.type239 rfl rfl rfl rfl rfl rfl (A0 rfl) (A0 rfl) rfl BW8 ?_;intro v28_4;refine R1 ?_;refine O7 2 rfl fun one_v28_4 => ?_;refine N0 1 rfl rfl rfl (A0 rfl) (A0 rfl) (K4 one_v28_4) rfl AF9 rfl ?_;refine R5 ?_;refine G8 i v (i + 1) (v28_4) ?_ ?_ (Le.trans (B8 [0, 0, 0] rfl) (E5 1 (by exact C3 (fun z => Own.box b3 58 [AV.int s.Floor, AV.list 2 (s.Cells.map B1.cs), AV.is v28_4, AV.is v14_3] :: Own.arr v28_4 239 5 z :: _) (AK2 (f := D1.cs) hx)) A8))
   ·omega
   omega
  intro h20;have k20 := B9 h20;have hge : i = s.Held.length := by omega
  rw [hge, AJ5];refine R7 ?_;exact I4 [1, 3] (v, v14_3) (trivial) rfl C1 (M4 rfl (F3 (ys := _) 2 rfl rfl P2 L0 rfl))
 refine I6 rfl rfl rfl (X3 rfl Tryz.zeroValue58 rfl) (fun a _ => qz4) ?_;intro b3 _;refine R1 ?_;refine I6 rfl rfl rfl (o9 rfl P7 Y1) (fun a _ => qz4) ?_;intro v11 _;refine R1 ?_;refine I6 rfl rfl rfl (T2 3 (fun _ => rfl) (L4 (by' := 24) 3 rfl P7 Tryz.type244 rfl rfl rfl rfl rfl rfl (A0 rfl) (A0 rfl) rfl BP3)) (fun a _ => qz4) ?_;intro v14_5 hone_v14_5;have one_v14_5 := hone_v14_5.2;refine K9 rfl rfl rfl (fun ext => Y6 (places := #[(0, 1), (1, 1), (2, 1), (3, 1)]) rfl d8 Tryz.zeroValue58 (fun w => by kernel_rfl) rfl (D8 (A0 rfl) (W4 _ _) (D8 (A0 rfl) (g8 _ _) (D8 (A0 rfl) (K4 one_v14_5) U1))) rfl) ?_;refine R12 ?_;refine d6 239 5 ?_;refine AWP.le (B8 [3, 0] rfl) ?_;refine J0 [(2, _), (3, _), (17, _), (18, _)] _ (fun (i : Nat) (v : Value) => i ≤ s.Held.length) (fun i v => [.box b3 58 [AV.int s.Floor, AV.list 2 (s.Cells.map B1.cs), AV.is v, AV.is v14_5], .arr v 239 5 ((s.Held.take i).map D1.cs)]) (fun i v => [(19, AV.int i)]) (fun i v => s.Held.length - i) (0) ((E4)) ?_ (K1 C1 A8) ?_
 ·exact E2 _
 intro i v hinv;refine R5 ?_;refine A3 ?_ ?_
 ·intro h20;have k20 := C5 h20;have hlt : i < s.Held.length := by omega
  obtain ⟨h, hx⟩ := B4 hlt;obtain ⟨g1, g2, g3, g4, g5⟩ := AI6 hs2 hx;refine R5 ?_;refine A1 rfl (D3 rfl F5 M2 (A0 rfl) (A0 rfl) hx qz2) ?_;refine R2 ?_;intro b5;refine R2 ?_;refine M6 5 D4 D4 rfl ?_;refine R3 ?_;refine C0 rfl rfl (A5 rfl Tryz.call259 rfl (BE0 _ W1) (A2 (A0 rfl) B0)) ?_;refine R2 ?_;refine H4 (by' := 72) 2 rfl rfl rfl rfl F5 Tryz.type239 rfl rfl rfl rfl rfl rfl (A0 rfl) (A0 rfl) rfl BW8 ?_;intro v28_6;refine R1 ?_;refine O7 2 rfl fun one_v28_6 => ?_;refine N0 1 rfl rfl rfl (A0 rfl) (A0 rfl) (K4 one_v28_6) rfl AF9 rfl ?_;refine R5 ?_;refine G8 i v (i + 1) (v28_6) ?_ ?_ (Le.trans (B8 [0, 0, 0] rfl) (E5 1 (by exact C3 (fun z => Own.box b3 58 [AV.int s.Floor, AV.list 2 (s.Cells.map B1.cs), AV.is v28_6, AV.is v14_5] :: Own.arr v28_6 239 5 z :: _) (AK2 (f := D1.cs) hx)) A8))
  ·omega
  omega
 intro h20;have k20 := B9 h20;have hge : i = s.Held.length := by omega
 rw [hge, AJ5];refine R7 ?_;exact I4 [1, 3] (v, v14_5) (trivial) rfl C1 (M4 rfl (F3 (ys := _) 2 rfl rfl P2 L0 rfl))
theorem CO6 (s : D9) (hs : s.size ≤ 1048576) : E1 202 [AV.agg s.cs] (AV.agg s.cs) :=
  L5 (Ca0 s hs) fun x _ => AK8 (D9.lc s x)
theorem less_own (l : List D1) (n : Int) (hl : l.length ≤ 1048576) : M1 208 [AV.list 5 (l.map D1.cs), AV.int n] [] (fun _ : Value => True) (fun v => [.arr v 239 5 ((o7 l n).map D1.cs)]) (fun v => AV.is v) := by
 refine C8 Tryz.func208 rfl Tryz.ntmps208 rfl ?_;refine R2 ?_;refine A1 rfl (G1 rfl I9) ?_;refine R3 ?_;refine c7 239 5 rfl rfl rfl rfl I9 ?_;intro v5;refine R9 ?_;refine W7 [(1, _), (4, _), (8, _), (9, _)] _ (fun (i : Nat) (v : Value) (q : List D1) => i ≤ l.length ∧ q = o7 (l.take i) n ∧ q.length ≤ i) (fun i v q => [.arr v 239 5 (q.map D1.cs)]) (fun i v q => [(5, AV.is v), (10, AV.int i)]) (fun i v q => l.length - i) (0) (v5) ([]) ?_ (K1 C1 A8) ?_
 ·exact ⟨E2 _, rfl, K5 _⟩
 intro i v q hinv;refine R5 ?_;refine A3 ?_ ?_
 ·intro h11;have k11 := C5 h11;have hlt : i < l.length := by omega
  obtain ⟨h, hx⟩ := B4 hlt;refine R5 ?_;refine A1 rfl (D3 rfl F5 M2 (A0 rfl) (A0 rfl) hx qz2) ?_;refine R2 ?_;intro b7;refine R9 ?_;refine A3 ?_ ?_
  ·intro h17;refine R4 ?_;refine H4 (by' := 72) 1 rfl rfl rfl rfl F5 Tryz.type239 rfl rfl rfl rfl rfl rfl (A0 rfl) (A0 rfl) rfl qz2 ?_;intro v21_1;refine R6 ?_;refine S7 i v q (i + 1) (v21_1) (q ++ [h]) ?_ ?_ (Le.trans (B8 [0, 0] rfl) (E5 1 CR9 A8))
   ·first | exact ⟨by omega, by rw [BH6 hx, D0 h17, hinv.2.1], by rw [H3]; simp; omega⟩ | exact ⟨by omega, by rw [BH6 hx, C6 (by rw [h17]; decide), hinv.2.1], by omega⟩
   omega
  intro h17;refine R5 ?_;refine S7 i v q (i + 1) (v) (q) ?_ ?_ (Le.trans (B8 [0, 0] rfl) (E5 1 CR9 A8))
  ·first | exact ⟨by omega, by rw [BH6 hx, D0 h17, hinv.2.1], by rw [H3]; simp; omega⟩ | exact ⟨by omega, by rw [BH6 hx, C6 (by rw [h17]; decide), hinv.2.1], by omega⟩
  omega
 intro h11;have k11 := B9 h11;have hge : l.length ≤ i := by omega
 have hq := hinv.2.1;rw [P8 hge] at hq;rw [← hq];refine R7 ?_;exact I4 [0] v (trivial) rfl C1 O6
theorem CK2 (l : List D1) (n : Int) (hl : l.length ≤ 1048576) : E1 208 [AV.list 5 (l.map D1.cs), AV.int n] (AV.list 5 ((o7 l n).map D1.cs)) :=
  L5 (less_own l n hl) fun x _ => K0 (Z5.2 rfl) F6
theorem put_csH (l : List D1) (k : Nat) (x : D1) : (l.take k ++ x :: l.drop k).map D1.cs = [] ++ (l.take (k : Int).toNat).map D1.cs ++ [x.cs] ++ ([] ++ (l.drop (k : Int).toNat).map D1.cs) := by simp
theorem Cj6 (l : List D1) (h : D1) (hs : l.Pairwise fun a b => a.Txn < b.Txn) (hl : l.length ≤ 1048576) : M1 205 [AV.list 5 (l.map D1.cs), AV.agg h.cs] [] (fun _ : Value => True) (fun v => [.arr v 239 5 ((AT5 h l).map D1.cs)]) (fun v => AV.is v) := by
 refine C8 Tryz.func205 rfl Tryz.ntmps205 rfl ?_;refine R3 ?_;intro b3;refine A1 rfl (G1 rfl I9) ?_;refine R9 ?_;refine F2 [(0, _), (3, _), (4, _)] _ (fun (k : Nat) => k ≤ l.length ∧ ∀ i y, k ≤ i → l[i]? = some y → h.Txn < y.Txn) (fun k => []) (fun k => [(5, AV.int k)]) (fun k => k) (l.length) ?_ (G3 ⟨C3 (fun z => some (AV.int z)) (by rw [A7]), rfl, rfl, rfl, trivial⟩) ?_
 ·exact ⟨K5 _, fun i y h1 h2 => by (have := (E9.1 h2).1; omega)⟩
 intro k hinv;obtain ⟨y, hy0⟩ : ∃ y : D1, 0 < k → l[k - 1]? = some y := by (by_cases h9 : 0 < k; (have h8 := hinv.1; exact ⟨_, fun _ => N6 (show k - 1 < l.length by omega)⟩); exact ⟨h, fun h8 => absurd h8 h9⟩)
 have hk1 : 0 < k → ((k : Int) - 1).toNat = k - 1 := fun _ => by omega
 refine R9 ?_;refine Q4 rfl (V1 rfl rfl rfl) (fun hc => AT8 rfl F5 M2 (A9 rfl hc) (A9 rfl hc) (by have := r3 hc; have := hinv.1; omega) (by have h9 := r3 hc; rw [hk1 qz8, X2, hy0 qz8]; rfl)) ?_;refine R7 ?_;refine A3 ?_ ?_
 ·intro h21;have hkt : 0 < k ∧ h.Txn < y.Txn := by simpa using h21
  refine R7 ?_;refine Am5 ?_;refine G4 k (k - 1) ?_ ?_ (G3 ⟨C3 (fun z => some (AV.int z)) qz8, rfl, rfl, rfl, trivial⟩)
  ·exact ⟨by omega, fun i z hi hz => if e : k ≤ i then hinv.2 i z e hz else qz104⟩
  omega
 intro h21;have hng : 0 < k → ¬ h.Txn < y.Txn := fun h9 => by simpa [h9] using h21
 have hput : AT5 h l = l.take k ++ h :: l.drop k := Ba6 hinv.1 (fun i x hi hx => by have h7 := hy0 qz8; have h8 := hng qz8; rcases Nat.lt_or_ge i (k - 1) with h6 | h6; (have := BB9 (f := D1.Txn) hs h6 hx h7; omega); (have : i = k - 1 := qz8; subst this; rw [hx] at h7; injection h7 with h7; subst h7; omega)) (fun x hx => hinv.2 k x (K5 _) hx);rw [hput];refine R3 ?_;refine P6 rfl rfl rfl rfl F5 M2 ?_;intro v24;refine R2 ?_;refine A1 rfl (BG7 rfl F5 M2 (A0 rfl) (A0 rfl) qz8 Aa7) ?_;refine H4 (by' := 72) 0 rfl rfl rfl rfl F5 Tryz.type239 rfl rfl rfl rfl rfl rfl (A0 rfl) (A0 rfl) rfl (by simp only [Q1, A7, p7]; omega) ?_;intro v28_1;refine R3 ?_;refine AWP.le (AK1 [0] 6 rfl rfl (K0 (C2 (i := 0) rfl) F6) U2) ?_;refine O8 _ [(1, false), (2, false), (3, false), (5, false), (6, false), (8, false), (0, true), (4, true), (7, true), (9, true)] D4 D4 rfl AW7 ?_;refine R2 ?_;refine P4 rfl rfl rfl (fun ext => AG9 rfl F5 M2 (A0 rfl) (A0 rfl) qz8 Aa7) ?_;refine R3 ?_;refine T4 rfl rfl rfl (o9 rfl F5 M2) (fun a _ => qz4) ?_;intro v29 _;refine T4 rfl rfl rfl (L4 (by' := 72) 1 rfl F5 Tryz.type239 rfl rfl rfl rfl rfl rfl (A0 rfl) (A0 rfl) rfl CA5) (fun a _ => qz4) ?_;intro v33_2 _;refine T4 rfl rfl rfl (L4 (by' := 72) 1 rfl F5 Tryz.type239 rfl rfl rfl rfl rfl rfl (A0 rfl) (A0 rfl) rfl CA5) (fun a _ => qz4) ?_;intro v36_3 _;refine T4 rfl rfl rfl (L4 (by' := 72) 1 rfl F5 Tryz.type239 rfl rfl rfl rfl rfl rfl (A0 rfl) (A0 rfl) rfl CA5) (fun a _ => qz4) ?_;intro v38_4 _;refine R4 ?_;exact I4 [1] v38_4 (trivial) rfl (by first | rfl | exact C3 (fun z => [Own.arr _ 239 5 z]) (put_csH _ _ _)) (M4 rfl (A6 rfl C1))
theorem Ca1 (l : List D1) (h : D1) (hs : l.Pairwise fun a b => a.Txn < b.Txn) (hl : l.length ≤ 1048576) : E1 205 [AV.list 5 (l.map D1.cs), AV.agg h.cs] (AV.list 5 ((AT5 h l).map D1.cs)) :=
  L5 (Cj6 l h hs hl) fun x _ => K0 (Z5.2 rfl) F6
theorem put_csT (l : List N1) (k : Nat) (x : N1) : (l.take k ++ x :: l.drop k).map N1.cs = [] ++ (l.take (k : Int).toNat).map N1.cs ++ [x.cs] ++ ([] ++ (l.drop (k : Int).toNat).map N1.cs) := by simp
theorem Cj7 (l : List N1) (h : N1) (hs : l.Pairwise fun a b => a.Txn < b.Txn) (hl : l.length ≤ 1048576) : M1 209 [AV.list 3 (l.map N1.cs), AV.agg h.cs] [] (fun _ : Value => True) (fun v => [.arr v 244 3 ((AP2 h l).map N1.cs)]) (fun v => AV.is v) := by
 refine C8 Tryz.func209 rfl Tryz.ntmps209 rfl ?_;refine R3 ?_;intro b3;refine A1 rfl (G1 rfl I9) ?_;refine R9 ?_;refine F2 [(0, _), (3, _), (4, _)] _ (fun (k : Nat) => k ≤ l.length ∧ ∀ i y, k ≤ i → l[i]? = some y → h.Txn < y.Txn) (fun k => []) (fun k => [(5, AV.int k)]) (fun k => k) (l.length) ?_ (G3 ⟨C3 (fun z => some (AV.int z)) (by rw [A7]), rfl, rfl, rfl, trivial⟩) ?_
 ·exact ⟨K5 _, fun i y h1 h2 => by (have := (E9.1 h2).1; omega)⟩
 intro k hinv;obtain ⟨y, hy0⟩ : ∃ y : N1, 0 < k → l[k - 1]? = some y := by (by_cases h9 : 0 < k; (have h8 := hinv.1; exact ⟨_, fun _ => N6 (show k - 1 < l.length by omega)⟩); exact ⟨h, fun h8 => absurd h8 h9⟩)
 have hk1 : 0 < k → ((k : Int) - 1).toNat = k - 1 := fun _ => by omega
 refine R9 ?_;refine Q4 rfl (V1 rfl rfl rfl) (fun hc => AT8 rfl P7 Y1 (A9 rfl hc) (A9 rfl hc) (by have := r3 hc; have := hinv.1; omega) (by have h9 := r3 hc; rw [hk1 qz8, X2, hy0 qz8]; rfl)) ?_;refine R7 ?_;refine A3 ?_ ?_
 ·intro h21;have hkt : 0 < k ∧ h.Txn < y.Txn := by simpa using h21
  refine R7 ?_;refine Am5 ?_;refine G4 k (k - 1) ?_ ?_ (G3 ⟨C3 (fun z => some (AV.int z)) qz8, rfl, rfl, rfl, trivial⟩)
  ·exact ⟨by omega, fun i z hi hz => if e : k ≤ i then hinv.2 i z e hz else qz104⟩
  omega
 intro h21;have hng : 0 < k → ¬ h.Txn < y.Txn := fun h9 => by simpa [h9] using h21
 have hput : AP2 h l = l.take k ++ h :: l.drop k := Ba7 hinv.1 (fun i x hi hx => by have h7 := hy0 qz8; have h8 := hng qz8; rcases Nat.lt_or_ge i (k - 1) with h6 | h6; (have := BB9 (f := N1.Txn) hs h6 hx h7; omega); (have : i = k - 1 := qz8; subst this; rw [hx] at h7; injection h7 with h7; subst h7; omega)) (fun x hx => hinv.2 k x (K5 _) hx);rw [hput];refine R3 ?_;refine P6 rfl rfl rfl rfl P7 Y1 ?_;intro v24;refine R2 ?_;refine A1 rfl (BG7 rfl P7 Y1 (A0 rfl) (A0 rfl) qz8 Aa7) ?_;refine H4 (by' := 24) 0 rfl rfl rfl rfl P7 Tryz.type244 rfl rfl rfl rfl rfl rfl (A0 rfl) (A0 rfl) rfl (by simp only [Q1, A7, p7]; omega) ?_;intro v28_1;refine R3 ?_;refine AWP.le (AK1 [0] 6 rfl rfl (K0 (C2 (i := 0) rfl) F6) U2) ?_;refine O8 _ [(1, false), (2, false), (3, false), (5, false), (6, false), (8, false), (0, true), (4, true), (7, true), (9, true)] D4 D4 rfl AW7 ?_;refine R2 ?_;refine P4 rfl rfl rfl (fun ext => AG9 rfl P7 Y1 (A0 rfl) (A0 rfl) qz8 Aa7) ?_;refine R3 ?_;refine T4 rfl rfl rfl (o9 rfl P7 Y1) (fun a _ => qz4) ?_;intro v29 _;refine T4 rfl rfl rfl (L4 (by' := 24) 1 rfl P7 Tryz.type244 rfl rfl rfl rfl rfl rfl (A0 rfl) (A0 rfl) rfl CA5) (fun a _ => qz4) ?_;intro v33_2 _;refine T4 rfl rfl rfl (L4 (by' := 24) 1 rfl P7 Tryz.type244 rfl rfl rfl rfl rfl rfl (A0 rfl) (A0 rfl) rfl CA5) (fun a _ => qz4) ?_;intro v36_3 _;refine T4 rfl rfl rfl (L4 (by' := 24) 1 rfl P7 Tryz.type244 rfl rfl rfl rfl rfl rfl (A0 rfl) (A0 rfl) rfl CA5) (fun a _ => qz4) ?_;intro v38_4 _;refine R4 ?_;exact I4 [1] v38_4 (trivial) rfl (by first | rfl | exact C3 (fun z => [Own.arr _ 244 3 z]) (put_csT _ _ _)) (M4 rfl (A6 rfl C1))
theorem Bb0 (l : List N1) (h : N1) (hs : l.Pairwise fun a b => a.Txn < b.Txn) (hl : l.length ≤ 1048576) : E1 209 [AV.list 3 (l.map N1.cs), AV.agg h.cs] (AV.list 3 ((AP2 h l).map N1.cs)) :=
  L5 (Cj7 l h hs hl) fun x _ => K0 (Z5.2 rfl) F6
theorem Cj8 (l : List B1) (w : List A4) (t : Int) (ho : AH8 l) (hs : C7 B1.size l ≤ 1048576) (hw : C7 A4.size w ≤ 1048576) (ht1 : 1 ≤ t) : E1 207 [AV.list 2 (l.map B1.cs), AV.list 3 (w.map A4.cs), AV.int t] (AV.tup [AV.list 2 ((AE2 l w t).1.map B1.cs), AV.bool (AE2 l w t).2]) :=
  L5 (DC4 l w t ho hs hw ht1) fun x h => AK9 (D5 (AX7 B1.lcM h 0 rfl fun o ho => Q2 _ ho) (D5 I0 d5))
theorem y6 (l : List Str) (hl : l.length ≤ 4194304) : E1 151 [strs l] (strs l) :=
  L5 (BA0 l hl) fun x _ => K0 (Z5.2 rfl) F6
theorem Bb1 (a b : Int) : E1 160 [AV.int a, AV.int b] (AV.int (if a < b then b else a)) := by
 refine B3 Tryz.func160 rfl Tryz.ntmps160 rfl ?_;refine R11 ?_;refine A3 ?_ ?_
 ·intro h7;have k7 := C5 h7;refine R6 ?_;exact D6 rfl (A6 rfl (by exact C3 AV.int (by split <;> omega)))
 intro h7;have k7 := B9 h7;refine R7 ?_;exact D6 rfl (A6 rfl (by exact C3 AV.int (by split <;> omega)))
theorem Cj9 (s : D9) (r : M5) (g : SO s) (hs : s.size ≤ 300000) (hrs : r.size ≤ 300000) : E1 166 [AV.agg s.cs, AV.agg r.cs] (AV.tup [AV.agg (U4 s r).1.cs, AV.bool (U4 s r).2]) := by
 obtain ⟨hs1, hs2, hs3, hs4, hs5⟩ := AA3 hs;have hgc := g.cells;have hgh := g.hsort;have hgt := g.tsort;have hr2 : r.size = C7 (fun x : Str => x.length) r.Reads + C7 A4.size r.Writes := rfl;have hr3 := L9 (f := fun x : Str => x.length) (l := r.Reads);have hr4 := L9 (f := A4.size) (l := r.Writes);have hho := Ba8 s.Held r.Txn;have hto := DD0 s.Told r.Txn;obtain ⟨h, hh⟩ : ∃ h, (AL3 s.Held r.Txn).1 = h := ⟨_, rfl⟩;have hf1 : AP1 s.Held r.Txn = true → AB3 s.Held r.Txn = some h := fun e => by
  rw [← hho] at e;unfold AL3 at hh e
  cases hf : AB3 s.Held r.Txn with
  | none => rw [hf] at e; cases e
  | some x => rw [hf] at hh; exact C3 some hh
 have hf0 : AP1 s.Held r.Txn = false → AB3 s.Held r.Txn = none := fun e => Az7.2 e;have hhs : AP1 s.Held r.Txn = true → h.size ≤ 300000 ∧ 1 ≤ h.Time := fun e => by
  obtain ⟨h1, h2⟩ := Ag3 (hf1 e);obtain ⟨i, hi⟩ := X9 h1;exact ⟨(AI6 hs2 hi).1, g.times h h1⟩
 refine B3 Tryz.func166 rfl Tryz.ntmps166 rfl ?_;refine R3 ?_;intro b2;refine R1 ?_;intro b3;refine R1 ?_;intro b4;refine R5 ?_;refine A1 rfl (A5 rfl Tryz.call202 rfl (CO6 s qz8) J3) ?_;refine R1 ?_;intro b6;refine R7 ?_;refine A1 rfl (A5 rfl Tryz.call203 rfl (Ad8 s r.Txn qz8) F0) ?_;refine R4 ?_;intro b7;refine R8 ?_;refine A1 rfl (A5 rfl Tryz.call204 rfl (AN5 s r.Txn qz8) F0) ?_;refine R4 ?_;intro b9;refine R6 ?_;rw [hh];rw [hho, hto];refine R6 ?_;refine A3 ?_ ?_
 ·intro h29;have hk : r.Kind = 4 := by simpa using h29
  have he : U4 s r = (⟨r.Time, s.Cells, s.Held, s.Told⟩, decide (s.Floor < r.Time)) := by (unfold U4; rw [D0 hk])
  rw [he];refine R8 ?_;refine AWP.le (B8 [2, 3, 3] rfl) ?_;refine X5 _ 7 (.pure 0 (.pure 1 (.pure 2 (.pure 3 (.pure 4 (.pure 5 (.e1 6 .nil))))))) D4 D4 rfl (S3 3) ?_;refine R7 ?_;refine AQ7 rfl rfl rfl (o4 5 rfl rfl (A0 rfl) (A0 rfl) (Z2 _) rfl L0 rfl) (fun a _ => qz4) ?_;intro _ _;refine R4 ?_;exact f7 rfl F1 (I3 (F3 (ys := _) 5 rfl rfl P2 L0 rfl) X8)
 intro h29;have hk4 : r.Kind ≠ 4 := by simpa using h29
 refine R5 ?_;refine A3 ?_ ?_
 ·intro h42;have he : U4 s r = (s, false) := by (unfold U4; rw [C6 hk4, D0 h42])
  rw [he];refine R7 ?_;exact f7 rfl F1 (I3 (F3 (ys := _) 3 rfl rfl P2 L0 rfl) X8)
 intro h42;have hT : AM2 s.Told r.Txn = false := h42;have hnT : ¬ AM2 s.Told r.Txn = true := by (rw [hT]; decide)
 refine R7 ?_;refine A3 ?_ ?_
 ·intro h45;have hk1 : r.Kind = 1 := by simpa using h45
  have he : U4 s r = (⟨r.Time, s.Cells, AT5 (hOf r) s.Held, s.Told⟩, (!AP1 s.Held r.Txn && decide (s.Floor < r.Time)) && fits s r.Reads r.Writes) := by (unfold U4; rw [C6 hk4, C6 hnT, D0 hk1])
  rw [he];refine R1 ?_;refine O8 _ [(0, false), (1, false), (2, false), (3, false), (4, false), (5, false), (6, false), (7, false), (8, false), (9, false), (10, false), (12, false), (13, false), (11, true), (14, true), (15, false)] D4 D4 rfl AW7 ?_;refine R10 ?_;refine P4 rfl rfl rfl (fun ext => A5 rfl Tryz.call151 rfl (y6 _ qz8) (A2 (A0 rfl) B0)) ?_;refine R2 ?_;refine T4 rfl rfl rfl (o9 rfl D7 H0) (fun a _ => qz4) ?_;intro v60 _;refine T4 rfl rfl rfl (Ac8 [6] (fun _ => rfl) (fun _ => K0 (C2 (i := 0) rfl) F6) (fun _ => BH1) (L4 (by' := 40) 6 rfl D7 Tryz.type67 rfl rfl rfl rfl rfl rfl (A0 rfl) (A0 rfl) rfl BP3)) (fun a _ => qz4) ?_;intro v63_1 _;refine R2 ?_;refine A1 rfl (A5 rfl Tryz.call205 rfl (Ca1 s.Held (hOf r) hgh qz8) F0) ?_;refine R11 ?_;refine AWP.le (B8 [2, 3, 3] rfl) ?_;refine X5 _ 19 (.pure 0 (.pure 1 (.pure 2 (.pure 3 (.pure 4 (.pure 5 (.pure 6 (.pure 7 (.pure 8 (.pure 9 (.pure 10 (.pure 11 (.pure 12 (.pure 13 (.pure 14 (.pure 15 (.pure 16 (.pure 17 (.e1 18 .nil))))))))))))))))))) D4 D4 rfl (S3 3) ?_;refine R4 ?_;refine Ac6 rfl rfl (V1 rfl rfl rfl) (fun hc ext => BM0 2 rfl Tryz.underlying175 rfl E7 (A0 rfl) rfl) ?_;refine Ac6 rfl rfl (V1 rfl rfl rfl) (fun hc ext => BC8 1 rfl (A9 rfl hc) rfl Q8 rfl) ?_;refine Ac6 rfl rfl (V1 rfl rfl rfl) (fun hc ext => BM0 0 rfl d8 rfl E7 (A0 rfl) rfl) ?_;refine Ac6 rfl rfl (V1 rfl rfl rfl) (fun hc ext => BC8 2 rfl (A9 rfl hc) rfl Q8 rfl) ?_;refine Ac6 rfl rfl (V1 rfl rfl rfl) (fun hc ext => w_gtr rfl (A9 rfl hc) (A9 rfl hc)) ?_;refine R2 ?_;refine Ac6 rfl rfl (V1 rfl rfl rfl) (fun hc ext => Cn2 2 rfl (A0 rfl) rfl P2 L0 rfl) ?_;refine Ac6 rfl rfl (V1 rfl rfl rfl) (fun hc ext => BM0 4 rfl Tryz.underlying175 rfl z7 (A0 rfl) rfl) ?_;refine Ac6 rfl rfl (V1 rfl rfl rfl) (fun hc ext => BC8 1 rfl (A9 rfl hc) rfl Tryz.isAgg25 rfl) ?_;refine Ac6 rfl rfl (V1 rfl rfl rfl) (fun hc ext => BM0 5 rfl Tryz.underlying175 rfl Tryz.sizeOf35 (A0 rfl) rfl) ?_;refine Ac6 rfl rfl (V1 rfl rfl rfl) (fun hc ext => BC8 1 rfl (A9 rfl hc) rfl Tryz.isAgg35 rfl) ?_;refine Ac6 rfl rfl (V1 rfl rfl rfl) (fun hc ext => A5 rfl Tryz.call206 rfl (Bu1 s r.Reads r.Writes qz8 qz8) (A2 (A9 rfl hc) (A2 (A9 rfl hc) (A2 (A9 rfl hc) B0)))) ?_;refine R2 ?_;refine AQ7 rfl rfl rfl (o4 5 rfl rfl (A0 rfl) (A0 rfl) (Z2 _) rfl L0 rfl) (fun a _ => qz4) ?_;intro _ _;refine R4 ?_;exact f7 rfl F1 (I3 (F3 (ys := _) 5 rfl rfl P2 L0 rfl) X8)
 intro h45;have hk1 : r.Kind ≠ 1 := by simpa using h45
 have hap : U4 s r = (if r.Yes = true then (match AB3 s.Held r.Txn with | none => (s, false) | some h => if r.Time < h.Time then (s, false) else if (AE2 s.Cells h.Writes r.Time).2 = true then (AI2 s r (if s.Floor < r.Time then r.Time else s.Floor) (AE2 s.Cells h.Writes r.Time).1, true) else (s, false)) else (AI2 s r s.Floor s.Cells, true)) := by (unfold U4; rw [C6 hk4, C6 hnT, C6 hk1]; rfl)
 refine R6 ?_;refine A3 ?_ ?_
 ·intro h88;refine R13 ?_;refine A3 ?_ ?_
  ·intro h99;have he : U4 s r = (s, false) := by (rw [hap, D0 h88]; cases e : AP1 s.Held r.Txn with | false => (rw [hf0 e]) | true => (rw [hf1 e]; dsimp only; rw [D0 (by rw [e] at h99; simpa using h99)]))
   rw [he];refine R7 ?_;exact f7 rfl F1 (I3 (F3 (ys := _) 3 rfl rfl P2 L0 rfl) X8)
  intro h99;simp only [r5, AD5, w5] at h99;obtain ⟨hhas, hnlt⟩ := h99;obtain ⟨hz1, hz2⟩ := hhs hhas;have hz3 : h.size = C7 (fun x => x.length) h.Reads + C7 A4.size h.Writes := rfl;refine R9 ?_;refine A1 rfl (A5 rfl Tryz.call207 rfl (Cj8 s.Cells h.Writes r.Time hgc qz8 qz8 qz8) AA5) ?_;refine R12 ?_;refine A3 ?_ ?_
  ·intro h112;have he : U4 s r = (s, false) := by (rw [hap, D0 h88, hf1 hhas]; dsimp only; rw [C6 qz8, C6 (by simpa using h112)])
   rw [he];refine R7 ?_;exact f7 rfl F1 (I3 (F3 (ys := _) 3 rfl rfl P2 L0 rfl) X8)
  intro h112;have he : U4 s r = (AI2 s r (if s.Floor < r.Time then r.Time else s.Floor) (AE2 s.Cells h.Writes r.Time).1, true) := by (rw [hap, D0 h88, hf1 hhas]; dsimp only; rw [C6 qz8, D0 (by simpa using h112)])
  rw [he];unfold AI2;refine R12 ?_;refine A1 rfl (A5 rfl Tryz.call160 rfl (Bb1 _ _) F0) ?_;refine R9 ?_;refine A1 rfl (A5 rfl Tryz.call208 rfl (CK2 s.Held r.Txn qz8) F0) ?_;refine R14 ?_;refine A1 rfl (A5 rfl Tryz.call209 rfl (Bb0 s.Told ⟨r.Txn, r.Yes, r.Time⟩ hgt qz8) F0) ?_;refine R10 ?_;exact f7 rfl F1 (I3 (F3 (ys := _) 3 rfl rfl P2 L0 rfl) X8)
 intro h88;have he : U4 s r = (AI2 s r s.Floor s.Cells, true) := by (rw [hap, C6 (by rw [h88]; decide)])
 rw [he];unfold AI2;refine R7 ?_;refine A1 rfl (A5 rfl Tryz.call208 rfl (CK2 s.Held r.Txn qz8) F0) ?_;refine R14 ?_;refine A1 rfl (A5 rfl Tryz.call209 rfl (Bb0 s.Told ⟨r.Txn, r.Yes, r.Time⟩ hgt qz8) F0) ?_;refine R10 ?_;exact f7 rfl F1 (I3 (F3 (ys := _) 3 rfl rfl P2 L0 rfl) X8)
end Go.PQ
namespace Go.PQ
open Go.Proofs
open Go Go.AV Go.M
attribute [local irreducible] OpW OpA OpS AWP J6 L3 K7 OpE K2 H9 K6 Le Ev F7 M7 Int.tmod Int.tdiv IntKind.wrap
theorem Ck0 (s : D9) (k : Str) (t : Int) (hs : s.size ≤ 1048576) : M1 235 [AV.agg s.cs, AV.str k, AV.int t] [] (fun _ : Value => True) (fun x => [.arr x 3 1 ((AN8 s.Held k t).map fun n => [AV.int n])]) (fun x => AV.is x) := by
 obtain ⟨hs1, hs2, hs3, hs4, hs5⟩ := AA3 hs;refine C8 Tryz.func235 rfl Tryz.ntmps235 rfl ?_;refine R3 ?_;intro b3;refine A1 rfl (G1 rfl I9) ?_;refine R3 ?_;refine c7 3 1 rfl rfl rfl rfl I9 ?_;intro v7;refine R10 ?_;refine W7 [(1, _), (2, _), (6, _), (11, _), (12, _)] _ (fun (i : Nat) (v : Value) (ns : List Int) => i ≤ s.Held.length ∧ ns = AN8 (s.Held.take i) k t) (fun i v ns => [.arr v 3 1 (ns.map fun n => [AV.int n])]) (fun i v ns => [(7, AV.is v), (13, AV.int i)]) (fun i v ns => s.Held.length - i) (0) (v7) ([]) ?_ (K1 C1 A8) ?_
 ·exact ⟨E2 _, rfl⟩
 intro i v ns hinv;refine R5 ?_;refine A3 ?_ ?_
 ·intro h14;have k14 := C5 h14;have hlt : i < s.Held.length := by omega
  obtain ⟨h, hx⟩ := B4 hlt;have hnl : ns.length ≤ 1048576 := by (rw [hinv.2]; have h9 := Cu7 (s.Held.take i) k t; rw [F4] at h9; omega)
  refine R5 ?_;refine A1 rfl (D3 rfl F5 M2 (A0 rfl) (A0 rfl) hx qz2) ?_;refine R2 ?_;intro b9;refine R12 ?_;refine L6 rfl (fun hc => A5 rfl Tryz.call281 rfl (BA3 _ _) (A2 (A9 rfl hc) (A2 (A9 rfl hc) B0))) ?_;refine R2 ?_;refine A3 ?_ ?_
  ·intro h26;refine R5 ?_;refine H4 (by' := 8) 1 rfl rfl rfl rfl G5 Tryz.type3 rfl rfl rfl rfl rfl rfl (A0 rfl) (A0 rfl) rfl qz2 ?_;intro v31_1;refine R6 ?_;refine S7 i v ns (i + 1) (v31_1) (ns ++ [h.Txn]) ?_ ?_ (Le.trans (B8 [0, 0] rfl) (E5 1 CR9 A8))
   ·first | exact ⟨by omega, by rw [Bt7 hx CR8, hinv.2]⟩ | exact ⟨by omega, by rw [CJ9 hx CR8, hinv.2]⟩
   omega
  intro h26;refine R5 ?_;refine S7 i v ns (i + 1) (v) (ns) ?_ ?_ (Le.trans (B8 [0, 0] rfl) (E5 1 CR9 A8))
  ·first | exact ⟨by omega, by rw [Bt7 hx CR8, hinv.2]⟩ | exact ⟨by omega, by rw [CJ9 hx CR8, hinv.2]⟩
  omega
 intro h14;have k14 := B9 h14;have hge : s.Held.length ≤ i := by omega
 have hns := hinv.2;rw [P8 hge] at hns;rw [← hns];refine R7 ?_;exact I4 [0] v (trivial) rfl C1 O6
theorem Bb2 (s : D9) (k : Str) (t : Int) (hs : s.size ≤ 1048576) : E1 235 [AV.agg s.cs, AV.str k, AV.int t] (ints (AN8 s.Held k t)) :=
  L5 (Ck0 s k t hs) fun x _ => K0 (Z5.2 rfl) F6
theorem of_own (l : List M5) (hl : l.length ≤ 60) (hr : ∀ r ∈ l, r.size ≤ 1100) : M1 138 [AV.list 7 (l.map M5.cs)] [] (fun _ : Value => True) (fun x => [.arr x 4 1 ((AW0 T8 l).map fun b => [AV.bool b])]) (fun x => AV.tup [AV.agg (V9 T8 l).cs, AV.is x]) := by
 have hgs : ∀ i, SO (V9 T8 (l.take i)) := fun i => Cp3 so_zero;have hsz : ∀ i, (V9 T8 (l.take i)).size ≤ 300000 := fun i => by
  have h1 := CZ4 (V9 T8 (l.take i));have h2 := Bn7 (m := 1100) (s := T8) (l := l.take i) fun r hr2 => hr r (AU0 hr2);have h3 : phi T8 = 0 := rfl;have h4 : (l.take i).length ≤ 60 := by rw [F4]; omega
  omega
 refine C8 Tryz.func138 rfl Tryz.ntmps138 rfl ?_;refine R3 ?_;intro b2;refine A1 rfl (G1 rfl I9) ?_;refine R4 ?_;intro b4;refine R3 ?_;refine c7 4 1 rfl rfl rfl rfl I9 ?_;intro v5;refine R3 ?_;refine AWP.le (Ag1 1 1 2 rfl rfl U2) ?_;refine AWP.le (Ag1 1 2 5 rfl rfl U2) ?_;refine AWP.le (Ag1 1 3 3 rfl rfl U2) ?_;refine R6 ?_;refine AWP.le (B8 [1, 0] rfl) ?_;refine W7 [(2, _), (3, _), (4, _), (10, _), (11, _)] _ (fun (i : Nat) (v : Value) (bs : List Bool) => i ≤ l.length ∧ bs = AW0 T8 (l.take i) ∧ bs.length ≤ i) (fun i v bs => [.box b4 58 (V9 T8 (l.take i)).cs, .arr v 4 1 (bs.map fun b => [AV.bool b])]) (fun i v bs => [(5, AV.is v), (12, AV.int i)]) (fun i v bs => l.length - i) (0) (v5) ([]) ?_ (K1 C1 A8) ?_
 ·exact ⟨E2 _, rfl, K5 _⟩
 intro i v bs hinv;refine R5 ?_;refine A3 ?_ ?_
 ·intro h13;have k13 := C5 h13;have hlt : i < l.length := by omega
  obtain ⟨r, hx⟩ := B4 hlt;have hgr := hr r (C2 hx);have hgi := hgs i;have hsi := hsz i;refine R5 ?_;refine A1 rfl (D3 rfl AG7 AD7 (A0 rfl) (A0 rfl) hx qz2) ?_;refine R2 ?_;intro b7;refine R6 ?_;refine A1 rfl (A5 rfl Tryz.call166 rfl (Cj9 (V9 T8 (l.take i)) r hgi qz8 qz8) F0) ?_;refine R4 ?_;intro b8;refine R8 ?_;refine A3 ?_ ?_
  ·intro h22;have hstep : (U4 (V9 T8 (l.take i)) r).1 = AD8 (V9 T8 (l.take i)) r := by (unfold AD8; rw [D0 h22])
   refine R8 ?_;refine H4 (by' := 1) 3 rfl rfl rfl rfl s0 Tryz.type4 rfl rfl rfl rfl rfl rfl (A0 rfl) (A0 rfl) rfl qz2 ?_;intro v27_1;refine R6 ?_;refine S7 i v bs (i + 1) (v27_1) (bs ++ [(U4 (V9 T8 (l.take i)) r).2]) ?_ ?_ (Le.trans (B8 [0, 0, 0, 0] rfl) (E5 2 CS3 A8))
   ·exact ⟨by omega, by rw [An4 hx, hinv.2.1], by rw [H3]; simp; omega⟩
   omega
  intro h22;have hstep : V9 T8 (l.take i) = AD8 (V9 T8 (l.take i)) r := by (conv => rhs; unfold AD8; rw [C6 (by rw [h22]; decide)])
  refine R5 ?_;refine H4 (by' := 1) 3 rfl rfl rfl rfl s0 Tryz.type4 rfl rfl rfl rfl rfl rfl (A0 rfl) (A0 rfl) rfl qz2 ?_;intro v27_2;refine R6 ?_;refine S7 i v bs (i + 1) (v27_2) (bs ++ [(U4 (V9 T8 (l.take i)) r).2]) ?_ ?_ (Le.trans (B8 [0, 0, 0, 0] rfl) (E5 2 CS3 A8))
  ·exact ⟨by omega, by rw [An4 hx, hinv.2.1], by rw [H3]; simp; omega⟩
  omega
 intro h13;have k13 := B9 h13;have hge : i = l.length := by omega
 have hbs := hinv.2.1;rw [hge, AJ5] at hbs;rw [hge, AJ5, ← hbs];refine R9 ?_;exact I4 [1] v (trivial) rfl C1 (g9 rfl F1 (I3 (F3 (ys := _) 2 rfl rfl P2 L0 rfl) X8))
theorem ofF_spec (l : List M5) (hl : l.length ≤ 60) (hr : ∀ r ∈ l, r.size ≤ 1100) : E1 138 [AV.list 7 (l.map M5.cs)] (AV.tup [AV.agg (V9 T8 l).cs, AV.list 1 ((AW0 T8 l).map fun b => [AV.bool b])]) :=
  L5 (of_own l hl hr) fun x _ => AK9 (D5 I0 (D5 (K0 (C2 (i := 0) rfl) F6) d5))
end Go.PQ
namespace Go.PQ
open Go.Proofs
open Go Go.AV Go.M
attribute [local irreducible] OpW OpA OpS AWP J6 L3 K7 OpE K2 H9 K6 Le Ev F7 M7 Int.tmod IntKind.wrap T7
end Go.PQ
namespace Go.PQ
open Go.Proofs
open Go Go.AV Go.M
attribute [local irreducible] OpW OpA OpS AWP J6 L3 K7 OpE K2 H9 K6 Le Ev F7 M7 Int.tmod Int.tdiv IntKind.wrap T7
theorem AA4 (a b : Int) : E1 160 [AV.int a, AV.int b] (AV.int (if b < a then a else b)) := by
 refine B3 Tryz.func160 rfl Tryz.ntmps160 rfl ?_;refine R11 ?_;refine A3 ?_ ?_
 ·intro h7;rw [D0 (r3 h7)];refine R6 ?_;exact D6 rfl (A6 rfl C1)
 intro h7;rw [C6 (BA5 h7)];refine R7 ?_;exact D6 rfl (A6 rfl C1)
end Go.PQ
namespace Go.PQ
open Go.Proofs
open Go Go.AV Go.M
attribute [local irreducible] OpW OpA OpS AWP J6 L3 K7 OpE K2 H9 K6 Le Ev F7 M7 f8 Int.tmod Int.tdiv IntKind.wrap T7
theorem Ck1 (a b : M5) (hs : a.size ≤ 1048576) : E1 323 [AV.agg a.cs, AV.agg b.cs] (AV.bool (decide (a = b))) := by
 have hl1 := L9 (f := fun s : Str => s.length) (l := a.Reads);have hl2 := L9 (f := A4.size) (l := a.Writes);have hs9 : C7 (fun s : Str => s.length) a.Reads + C7 A4.size a.Writes ≤ 1048576 := hs;refine B3 Tryz.func323 rfl Tryz.ntmps323 rfl ?_;refine R3 ?_;intro b2;refine R1 ?_;intro b3;refine R36 ?_;refine Q7 rfl (fun hc => w_bneq rfl m3 (A9 rfl hc) (A9 rfl hc)) ?_;refine R20 ?_;refine A3 ?_ ?_
 ·intro h57;have hne : a ≠ b := fun e => (by subst e; simp at h57);rw [AJ6 hne];refine R5 ?_;exact D6 rfl (A6 rfl C1)
 intro h57;have hh := h57;simp only [r5, bne_eq_false_iff_eq, A7] at hh;refine R7 ?_;refine F2 [(2, _), (3, _)] _ (fun (i : Nat) => i ≤ a.Reads.length ∧ a.Reads.take i = b.Reads.take i) (fun i => []) (fun i => [(5, AV.int i)]) (fun i => a.Reads.length - i) (0) ?_ (G3 A8) ?_
 ·exact ⟨E2 _, rfl⟩
 intro i hinv;refine R9 ?_;refine A3 ?_ ?_
 ·intro h62;have k62 := C5 h62;have hlt : i < a.Reads.length := (by simpa using h62);obtain ⟨x, hx⟩ := B4 hlt;obtain ⟨y, hy⟩ := B4 (show i < b.Reads.length by omega);refine R8 ?_;refine C0 rfl rfl (D3 rfl E3 I2 (A0 rfl) (A0 rfl) hx qz2) ?_;refine R4 ?_;refine C0 rfl rfl (D3 rfl E3 I2 (A0 rfl) (A0 rfl) hy qz2) ?_;refine R3 ?_;refine A3 ?_ ?_
  ·intro h75;have hne : a ≠ b := fun e => (by subst e; rw [hx] at hy; injection hy with hy; simp [hy] at h75);rw [AJ6 hne];refine R5 ?_;exact D6 rfl (A6 rfl C1)
  intro h75;refine R6 ?_;refine G4 i (i + 1) ?_ ?_ (G3 A8)
  ·exact ⟨by omega, by rw [T5, T5, hinv.2, hx, hy]; congr 2; simpa using h75⟩
  omega
 intro h62;have k62 := B9 h62;have hge : a.Reads.length ≤ i := (by simpa using h62);have hreads : a.Reads = b.Reads := (by have h9 := hinv.2; rw [P8 qz8, P8 qz8] at h9; exact h9);refine R7 ?_;refine F2 [(2, _), (3, _)] _ (fun (j : Nat) => j ≤ a.Writes.length ∧ a.Writes.take j = b.Writes.take j) (fun j => []) (fun j => [(6, AV.int j)]) (fun j => a.Writes.length - j) (0) ?_ (G3 A8) ?_
 ·exact ⟨E2 _, rfl⟩
 intro j hinv;refine R9 ?_;refine A3 ?_ ?_
 ·intro h80;have k80 := C5 h80;have hlt1 : j < a.Writes.length := (by simpa using h80);obtain ⟨u, hu⟩ := B4 hlt1;obtain ⟨v, hv⟩ := B4 (show j < b.Writes.length by omega);refine R8 ?_;refine C0 rfl rfl (D3 rfl D7 H0 (A0 rfl) (A0 rfl) hu qz2) ?_;refine R4 ?_;refine C0 rfl rfl (D3 rfl D7 H0 (A0 rfl) (A0 rfl) hv qz2) ?_;refine R1 ?_;refine C0 rfl rfl (w_aneq rfl Tryz.underlying67 D4 D4 (A0 rfl) (A0 rfl) (Ar3 D4 j4 rfl rfl (Bf5 O5) (Ar3 D4 j4 rfl rfl (Bf5 O5) (Ar3 D4 AG0 rfl rfl (CV1 m3) Cn5)))) ?_;refine R1 ?_;refine A3 ?_ ?_
  ·intro h93;have hne : a ≠ b := fun e => (by subst e; rw [hu] at hv; injection hv with hv; rw [CJ7] at h93; simp [hv] at h93);rw [AJ6 hne];refine R5 ?_;exact D6 rfl (A6 rfl C1)
  intro h93;refine R6 ?_;refine G4 j (j + 1) ?_ ?_ (G3 A8)
  ·exact ⟨by omega, by rw [T5, T5, hinv.2, hu, hv]; congr 2; rw [CJ7] at h93; simpa using h93⟩
  omega
 intro h80;have k80 := B9 h80;have hge1 : a.Writes.length ≤ j := (by simpa using h80);have hwrites : a.Writes = b.Writes := (by have h9 := hinv.2; rw [P8 qz8, P8 qz8] at h9; exact h9);have hyes : a = b := (by cases a; cases b; simp_all);rw [i7 hyes];refine R6 ?_;exact D6 rfl (A6 rfl C1)
theorem CD7 (a b : List I5) (n : Nat) (hs : ∀ e ∈ a, e.size ≤ 1048576) (hn : n ≤ 1048576) : E1 302 [AV.list 8 (a.map I5.cs), AV.list 8 (b.map I5.cs), AV.int (n : Int)] (AV.bool (AS1 a b n)) := by
 refine B3 Tryz.func302 rfl Tryz.ntmps302 rfl ?_;refine R18 ?_;refine A3 ?_ ?_
 ·intro h17;have he : AS1 a b n = false := (by unfold AS1; refine AJ6 fun hc => ?_; simp only [A7, AA9, H1] at h17; omega);rw [he];refine R5 ?_;exact D6 rfl (A6 rfl C1)
 intro h17;have hh := h17;simp only [A7, r5, w5] at hh;refine R7 ?_;refine F2 [(0, _), (1, _), (2, _)] _ (fun (i : Nat) => i ≤ n ∧ a.take i = b.take i) (fun i => []) (fun i => [(7, AV.int i)]) (fun i => n - i) (0) ?_ (G3 A8) ?_
 ·exact ⟨E2 _, rfl⟩
 intro i hinv;refine R7 ?_;refine A3 ?_ ?_
 ·intro h20;have k20 := C5 h20;have hlt : i < n := by omega
  obtain ⟨x, hx⟩ := B4 (show i < a.length by omega);obtain ⟨y, hy⟩ := B4 (show i < b.length by omega);have hxs : x.Rec.size ≤ 1048576 := hs x (C2 hx);refine R7 ?_;refine C0 rfl rfl (D3 rfl O9 V2 (A0 rfl) (A0 rfl) hx qz2) ?_;refine R4 ?_;refine C0 rfl rfl (D3 rfl O9 V2 (A0 rfl) (A0 rfl) hy qz2) ?_;refine R6 ?_;refine Q4 rfl (Y4 rfl rfl rfl) (fun hc => D3 rfl O9 V2 (A9 rfl hc) (A9 rfl hc) hx qz6) ?_;refine R4 ?_;refine Q4 rfl (Y4 rfl rfl rfl) (fun hc => D3 rfl O9 V2 (A9 rfl hc) (A9 rfl hc) hy qz6) ?_;refine R2 ?_;refine Q4 rfl (Y4 rfl rfl rfl) (fun hc => A5 rfl Tryz.call323 rfl (Ck1 _ _ W1) (A2 (A9 rfl hc) (A2 (A9 rfl hc) B0))) ?_;refine R3 ?_;refine A3 ?_ ?_
  ·intro h47;have he : AS1 a b n = false := DD1 hlt hx hy (by rw [entry_eq] at h47; simpa using h47);rw [he];refine R5 ?_;exact D6 rfl (A6 rfl C1)
  intro h47;refine R6 ?_;refine G4 i (i + 1) ?_ ?_ (G3 A8)
  ·exact ⟨by omega, Cj1 hinv.2 hx hy (by rw [entry_eq] at h47; simpa using h47)⟩
  omega
 intro h20;have k20 := B9 h20;have hge : i = n := by omega
 subst hge;have he : AS1 a b i = true := (by unfold AS1; exact i7 ⟨by omega, by omega, hinv.2⟩);rw [he];refine R6 ?_;exact D6 rfl (A6 rfl C1)
theorem CO7 (a b : List I5) (n : Nat) (hs : C7 I5.size a ≤ 1048576) (hn : n ≤ 1048576) : E1 302 [AV.list 8 (a.map I5.cs), AV.list 8 (b.map I5.cs), AV.int (n : Int)] (AV.bool (AS1 a b n)) :=
  CD7 a b n (fun e he => by obtain ⟨i, hi⟩ := X9 he; exact L8 (U6 (f := I5.size) hi) hs) hn
theorem Bb3 (l : List I5) (hs : C7 I5.size l ≤ 1048576) : M1 187 [AV.list 8 (l.map I5.cs)] [] (fun _ : Value => True) (fun v => [.arr v 177 8 (l.map I5.cs)]) (fun v => AV.is v) := by
 have hll : l.length ≤ 1048576 := L8 L9 hs;refine C8 Tryz.func187 rfl Tryz.ntmps187 rfl ?_;refine R2 ?_;refine A1 rfl (G1 rfl I9) ?_;refine R3 ?_;refine P6 rfl rfl rfl rfl O9 V2 ?_;intro v6;refine R8 ?_;refine AWP.le (B8 [0] rfl) ?_;refine J0 [(0, _), (2, _)] _ (fun (i : Nat) (v : Value) => i ≤ l.length) (fun i v => [.arr v 177 8 ((l.take i).map I5.cs)]) (fun i v => [(3, AV.is v), (4, AV.int i)]) (fun i v => l.length - i) (0) (v6) ?_ (K1 C1 A8) ?_
 ·exact E2 _
 intro i v hinv;refine R8 ?_;refine A3 ?_ ?_
 ·intro h10;have k10 := C5 h10;have hlt : i < l.length := At9;obtain ⟨x, hx⟩ := B4 hlt;have hsx : I5.size x ≤ 1048576 := L8 (U6 hx) hs;have hsr : C7 (fun s : Str => s.length) x.Rec.Reads + C7 A4.size x.Rec.Writes ≤ 1048576 := hsx;have hl1 := L9 (f := fun s : Str => s.length) (l := x.Rec.Reads);have hl2 := L9 (f := A4.size) (l := x.Rec.Writes);refine R7 ?_;refine A1 rfl (D3 rfl O9 V2 (A0 rfl) (A0 rfl) hx qz2) ?_;refine R2 ?_;intro b5;refine R4 ?_;refine P6 rfl rfl rfl rfl E3 I2 ?_;intro v17;refine R3 ?_;refine H4 (by' := 16) 0 rfl rfl rfl rfl E3 Tryz.type9 rfl rfl rfl rfl rfl rfl (A0 rfl) (A0 rfl) rfl (by simp only [A7, Q1]; omega) ?_;intro v21_1;refine R2 ?_;refine O7 0 rfl fun one_v21_1 => ?_;refine N0 1 rfl rfl rfl (A0 rfl) (A0 rfl) (K4 one_v21_1) rfl z7 rfl ?_;refine R3 ?_;refine P6 rfl rfl rfl rfl D7 H0 ?_;intro v24;refine R3 ?_;refine H4 (by' := 40) 0 rfl rfl rfl rfl D7 Tryz.type67 rfl rfl rfl rfl rfl rfl (A0 rfl) (A0 rfl) rfl (by simp only [A7, Q1]; omega) ?_;intro v28_2;refine R2 ?_;refine O7 0 rfl fun one_v28_2 => ?_;refine N0 2 rfl rfl rfl (A0 rfl) (A0 rfl) (K4 one_v28_2) rfl Tryz.sizeOf35 rfl ?_;refine R1 ?_;refine AWP.le (Ar5 [1, 0] 0 (.box b5 177 x.cs) rfl rfl ⟨rfl, rfl, (D5 I0 (D5 I0 (D5 I0 (D5 I0 (D5 I0 (D5 (K0 (C2 (i := 0) rfl) F6) (D5 (K0 (C2 (i := 1) rfl) F6) (D5 I0 d5))))))))⟩ U2) ?_;refine R4 ?_;refine H4 (by' := 96) 1 rfl rfl rfl rfl O9 Tryz.type177 rfl rfl rfl rfl rfl rfl (A0 rfl) (A0 rfl) rfl BW8 ?_;intro v34_3;refine R7 ?_;refine G8 i v (i + 1) (v34_3) ?_ ?_ (Le.trans (B8 [0, 0] rfl) (E5 1 (by (rw [BH0 hx, X1]; rfl)) A8))
  ·exact qz8
  omega
 intro h10;have k10 := B9 h10;have hge : l.length ≤ i := At9;rw [P8 hge];refine R7 ?_;exact I4 [0] v (trivial) rfl C1 O6
theorem Ax8 (l : List I5) (hs : C7 I5.size l ≤ 1048576) : E1 187 [AV.list 8 (l.map I5.cs)] (AV.list 8 (l.map I5.cs)) :=
  L5 (Bb3 l hs) fun x _ => K0 (C2 (i := 0) rfl) F6
def C4.fcs (g : C4) (v : Value) : List AV := [AV.is v, AV.int g.Term, AV.int g.Lead]
def C4.fow (g : C4) (v : Value) : List Own := [.arr v 131 3 (g.Reps.map E6.cs)]
theorem C4.fl (g : C4) (v : Value) : AL0 (C4.fow g v) (AV.agg (C4.fcs g v)) (AV.agg g.cs) := AK8 (D5 (K0 (C2 (i := 0) rfl) F6) (D5 I0 (D5 I0 d5)))
theorem Al6 (g : C4) (hs : g.size ≤ 1048576) : M1 158 [AV.agg g.cs] [] (fun _ : Value => True) (fun v => C4.fow g v) (fun v => AV.agg (C4.fcs g v)) := by
 have hrs : C7 E6.size g.Reps ≤ 1048576 := hs;have hll : g.Reps.length ≤ 1048576 := L8 L9 hrs;refine C8 Tryz.func158 rfl Tryz.ntmps158 rfl ?_;refine R3 ?_;intro b1;refine R1 ?_;intro b2;refine R3 ?_;refine P6 rfl rfl rfl rfl G6 J2 ?_;intro v5;refine R4 ?_;refine O7 0 rfl fun one_v5 => ?_;refine A1 rfl (Y6 (places := #[(0, 1), (1, 1), (2, 1)]) rfl W5 Tryz.zeroValue81 (fun w => by kernel_rfl) rfl (D8 (A0 rfl) (K4 one_v5) (D8 (A0 rfl) (W4 _ _) (D8 (A0 rfl) (W4 _ _) U1))) rfl) ?_;refine R1 ?_;intro b3;refine R8 ?_;refine AWP.le (B8 [0, 0] rfl) ?_;refine J0 [(1, _), (2, _), (3, _)] _ (fun (i : Nat) (v : Value) => i ≤ g.Reps.length) (fun i v => [.box b3 81 (C4.fcs g v), .arr v 131 3 ((g.Reps.take i).map E6.cs)]) (fun i v => [(4, AV.int i)]) (fun i v => g.Reps.length - i) (0) (v5) ?_ (K1 C1 A8) ?_
 ·exact E2 _
 intro i v hinv;refine R9 ?_;refine A3 ?_ ?_
 ·intro h15;have k15 := C5 h15;have hlt : i < g.Reps.length := BF4;obtain ⟨x, hx⟩ := B4 hlt;have hsx : C7 I5.size x.Log ≤ 1048576 := L8 (U6 (f := E6.size) hx) hrs;refine R3 ?_;refine M6 23 D4 D4 rfl ?_;refine R5 ?_;refine C0 rfl rfl (D3 rfl G6 J2 (A0 rfl) (A0 rfl) hx qz2) ?_;refine R5 ?_;refine C0 rfl rfl (D3 rfl G6 J2 (A0 rfl) (A0 rfl) hx qz2) ?_;refine R2 ?_;refine C0 rfl rfl (A5 rfl Tryz.call187 rfl (Ax8 x.Log hsx) J3) ?_;refine R3 ?_;refine C0 rfl rfl (D3 rfl G6 J2 (A0 rfl) (A0 rfl) hx qz2) ?_;refine R5 ?_;refine H4 (by' := 40) 1 rfl rfl rfl rfl G6 Tryz.type131 rfl rfl rfl rfl rfl rfl (A0 rfl) (A0 rfl) rfl BW8 ?_;intro v41_1;refine R1 ?_;refine O7 1 rfl fun one_v41_1 => ?_;refine N0 0 rfl rfl rfl (A0 rfl) (A0 rfl) (K4 one_v41_1) rfl AV3 rfl ?_;refine R6 ?_;refine G8 i v (i + 1) (v41_1) ?_ ?_ (Le.trans (B8 [0, 0] rfl) (K1 (by (rw [BH0 hx, X1]; rfl)) A8))
  ·exact qz8
  omega
 intro h15;have k15 := B9 h15;have hge : g.Reps.length ≤ i := BF4;rw [P8 hge];refine R7 ?_;exact I4 [1] v (trivial) rfl C1 (M4 rfl (F3 (ys := _) 2 rfl rfl O4 E0 rfl))
theorem Bu2 (r : E6) (t : Int) (hll : r.Log.length ≤ 1048576) (hs : ∀ e ∈ r.Log, e.size ≤ 1048576) : E1 95 [AV.agg r.cs, AV.int t] (AV.bool (w4 r t)) := by
 refine B3 Tryz.func95 rfl Tryz.ntmps95 rfl ?_;refine R3 ?_;intro b2;refine R19 ?_;refine Q7 rfl (fun hc => A5 rfl Tryz.call24 rfl (P3 _ _ _) (A2 (A9 rfl hc) (A2 L1 (A2 (A9 rfl hc) B0)))) ?_;refine R3 ?_;refine A3 ?_ ?_
 ·intro h19;have he : w4 r t = false := (by unfold w4; simp only [A7, AA9, H1, i6] at h19; rcases h19 with k | k; (rw [AJ6 qz8]; rfl); (rw [k]; simp));rw [he];refine R5 ?_;exact D6 rfl (A6 rfl C1)
 intro h19;have hh := h19;simp only [A7, r5, w5, AD5] at hh;have hg : w4 r t = AS0 t 1 r.Log := (by unfold w4; rw [i7 qz8, hh.2]; rfl);refine R7 ?_;refine J0 [(1, _), (2, _)] _ (fun (i : Nat) (p : Int) => i ≤ r.Log.length ∧ AS0 t 1 r.Log = AS0 t p (r.Log.drop i)) (fun i p => []) (fun i p => [(5, AV.int p), (6, AV.int i)]) (fun i p => r.Log.length - i) (0) (1) ?_ (G3 A8) ?_
 ·exact ⟨E2 _, rfl⟩
 intro i p hinv;refine R9 ?_;refine A3 ?_ ?_
 ·intro h24;have k24 := C5 h24;have hlt : i < r.Log.length := Au0;obtain ⟨x, hx⟩ := B4 hlt;have hsx : x.Rec.size ≤ 1048576 := hs x (C2 hx);refine R9 ?_;refine A1 rfl (D3 rfl O9 V2 (A0 rfl) (A0 rfl) hx qz2) ?_;refine R4 ?_;refine A1 rfl (A5 rfl Tryz.call24 rfl (P3 _ _ _) AA5) ?_;refine R5 ?_;refine Q7 rfl (fun hc => D3 rfl O9 V2 (A9 rfl hc) (A9 rfl hc) hx qz6) ?_;refine R2 ?_;refine Q7 rfl (fun hc => A5 rfl Tryz.call136 rfl (BD8 _ W1) (A2 (A9 rfl hc) B0)) ?_;refine R3 ?_;refine A3 ?_ ?_
  ·intro h46;have he : w4 r t = false := (by rw [hg, hinv.2, BA2 hx]; simp only [AA9, i6] at h46; rcases h46 with k | k; (rw [k]; rfl); (rw [Am9, k]; simp));rw [he];refine R5 ?_;exact D6 rfl (A6 rfl C1)
  intro h46;refine R5 ?_;refine A1 rfl (D3 rfl O9 V2 (A0 rfl) (A0 rfl) hx qz2) ?_;refine R9 ?_;refine G8 i p (i + 1) (x.Term) ?_ ?_ (G3 A8)
  ·exact ⟨by omega, by rw [hinv.2, BA2 hx]; simp only [r5, AD5] at h46; rw [h46.1, Am9, h46.2]; rfl⟩
  omega
 intro h24;have k24 := B9 h24;have hge : r.Log.length ≤ i := Au0;rw [hg, hinv.2, k6 hge];refine R6 ?_;exact D6 rfl (A6 rfl C1)
theorem CD8 (r : E6) (t : Int) (hs : r.size ≤ 1048576) : E1 95 [AV.agg r.cs, AV.int t] (AV.bool (w4 r t)) :=
  Bu2 r t (L8 (L9 (f := I5.size)) hs) fun e he => by obtain ⟨i, hi⟩ := X9 he; exact L8 (U6 (f := I5.size) hi) hs
theorem CO8 {g : C4} (h : ¬ (((AL2 g.Reps.length && within g.Term 0 200) && within g.Lead (-1) ((g.Reps.length : Int) - 1)) = true)) : Z6 g = false := by
  rw [← Bool.not_eq_true, AK3];intro k;apply h
  have h1 := k.term;have h3 : within g.Lead (-1) ((g.Reps.length : Int) - 1) = true := by
    unfold within; rw [E8, H1, H1]
    rcases k.lead with e | ⟨a, b, _⟩
    · have := k.many; omega
    · omega
  have h4 : AL2 g.Reps.length = true := by unfold AL2; rw [AA9, j0, j0]; have := k.many; omega
  have h5 : within g.Term 0 200 = true := by unfold within; rw [E8, H1, H1]; omega
  rw [h3, h4, h5]; rfl
theorem AR4 (g : C4) (hs : g.size ≤ 1048576) : E1 53 [AV.agg g.cs] (AV.bool (Z6 g)) := by
 have hrs : C7 E6.size g.Reps ≤ 1048576 := hs;have hll : g.Reps.length ≤ 1048576 := L8 L9 hrs;refine B3 Tryz.func53 rfl Tryz.ntmps53 rfl ?_;refine R3 ?_;intro b1;refine R18 ?_;refine Q7 rfl (fun hc => A5 rfl Tryz.call24 rfl (P3 _ _ _) (A2 (A9 rfl hc) AO2)) ?_;refine R9 ?_;refine Q7 rfl (fun hc => A5 rfl Tryz.call24 rfl (P3 _ _ _) (A2 (A9 rfl hc) (A2 L1 (A2 (A9 rfl hc) B0)))) ?_;refine R3 ?_;refine A3 ?_ ?_
 ·intro h29;have he : Z6 g = false := CO8 (by intro hc; simp only [AL2, E8, AA9, j0] at hc; simp only [A7, AA9, E8, BA6, i6] at h29; rcases h29 with (k | k) | k; (omega); (rw [hc.1.2] at k; cases k); (rw [hc.2] at k; cases k));rw [he];refine R5 ?_;exact D6 rfl (A6 rfl qz56)
 intro h29;have hh := h29;simp only [A7, r5, AD5] at hh;have hlead : -1 ≤ g.Lead ∧ g.Lead ≤ (g.Reps.length : Int) - 1 := (by have h9 := hh.2; unfold within at h9; simpa using h9);have hm : AL2 g.Reps.length = true := (by have h9 := hh.1.1; unfold AL2; simp only [Bool.and_eq_false_iff, bne_eq_false_iff_eq] at h9; rw [AA9, j0, j0]; exact h9);have hg : Z6 g = ((g.Lead == -1 || (Ah6 g g.Lead && (N9 g g.Lead).Up)) && g.Reps.all fun r => w4 r g.Term) := (by unfold Z6; rw [hm, hh.1.2]; rfl);refine R7 ?_;refine F2 [(1, _)] _ (fun (i : Nat) => i ≤ g.Reps.length ∧ (g.Reps.all fun r => w4 r g.Term) = ((g.Reps.drop i).all fun r => w4 r g.Term)) (fun i => []) (fun i => [(3, AV.int i)]) (fun i => g.Reps.length - i) (0) ?_ (G3 A8) ?_
 ·exact ⟨E2 _, rfl⟩
 intro i hinv;refine R9 ?_;refine A3 ?_ ?_
 ·intro h34;have k34 := C5 h34;have hlt : i < g.Reps.length := (by simpa using h34);obtain ⟨x, hx⟩ := B4 hlt;have hsx : x.size ≤ 1048576 := L8 (U6 hx) hrs;refine R8 ?_;refine C0 rfl rfl (D3 rfl G6 J2 (A0 rfl) (A0 rfl) hx qz2) ?_;refine R3 ?_;refine C0 rfl rfl (A5 rfl Tryz.call95 rfl (CD8 _ _ W1) (A2 (A0 rfl) (A2 (A0 rfl) B0))) ?_;refine R2 ?_;refine A3 ?_ ?_
  ·intro h45;have he : Z6 g = false := (by rw [hg, hinv.2, I8 hx, p8, show w4 x g.Term = false by simpa using h45]; simp);rw [he];refine R5 ?_;exact D6 rfl (A6 rfl qz56)
  intro h45;refine R6 ?_;refine G4 i (i + 1) ?_ ?_ (G3 A8)
  ·exact ⟨by omega, by rw [hinv.2, I8 hx, p8, show w4 x g.Term = true by simpa using h45]; rfl⟩
  omega
 intro h34;have k34 := B9 h34;have hge : g.Reps.length ≤ i := (by simpa using h34);have hall : (g.Reps.all fun r => w4 r g.Term) = true := BW6;rw [hall, Bool.and_true] at hg;refine R11 ?_;refine Q7 rfl (fun hc => D3 rfl G6 J2 (A9 rfl hc) (A9 rfl hc) (p5 (g := g) (r := g.Lead) ⟨by have h9 : ¬ g.Lead < 0 := (by simpa using hc); omega, by omega⟩) (by have h9 : ¬ g.Lead < 0 := (by simpa using hc); omega)) ?_;refine R6 ?_;exact D6 rfl (A6 rfl qz56)
end Go.PQ
namespace Go.M
open Go.AV
def AM8 (many : Int) : C4 × Bool := if AL2 many = true then (⟨List.replicate many.toNat ⟨true, [], 0⟩, 0, -1⟩, true) else (AH5, false)
theorem Ca2 {p : Nat → Bool} {lo n : Nat} (h : lo < n) (hp : p n = true) : AB8 p lo n = some n := by
  cases n with
  | zero => omega
  | succ k => unfold AB8; rw [C6 qz8, D0 hp]
theorem Ck2 {p : Nat → Bool} {lo n : Nat} (h : lo < n) (hp : ¬ p n = true) : AB8 p lo n = AB8 p lo (n - 1) := by
  cases n with
  | zero => omega
  | succ k => conv => { lhs; unfold AB8 }; rw [C6 qz8, C6 hp]; rfl
theorem Cv2 (a b c : Int) : BE8 a (if b < c then c else b) = min a (max b c) := by
  unfold BE8; rw [Int.min_def, Int.max_def]; split <;> split <;> split <;> omega
def At4 (l : List I5) (t : Int) : Bool := AS0 t 1 l && decide ((l.length : Int) ≤ 60)
theorem rep_eq (r : E6) (t : Int) : (!(!At4 r.Log t || !within r.Sure 0 r.Log.length)) = w4 r t := by
  unfold At4 w4
  cases AS0 t 1 r.Log <;> cases decide ((r.Log.length : Int) ≤ 60) <;> cases within r.Sure 0 r.Log.length <;> rfl
theorem log_stop {t p : Int} {l : List I5} {i : Nat} {e : I5} (hx : l[i]? = some e) (h : e.Term < p ∨ t < e.Term ∨ S1 e.Rec = false) : AS0 t p (l.drop i) = false := by
  rw [BA2 hx];unfold within
  rcases h with h | h | h
  · rw [AJ6 (show ¬ p ≤ e.Term by omega)]; rfl
  · rw [AJ6 (show ¬ e.Term ≤ t by omega)]; simp
  · rw [h]; simp
theorem log_next {t p : Int} {l : List I5} {i : Nat} {e : I5} (hx : l[i]? = some e) (h : p ≤ e.Term ∧ e.Term ≤ t ∧ S1 e.Rec = true) : AS0 t p (l.drop i) = AS0 t e.Term (l.drop (i + 1)) := by
  rw [BA2 hx];unfold within
  rw [i7 h.1, i7 h.2.1, h.2.2]; rfl
theorem Ca3 (g : C4) (h : (((AL2 g.Reps.length && within g.Term 0 200) && (g.Lead == -1 || (Ah6 g g.Lead && (N9 g g.Lead).Up)))) = true) : (!(g.Reps.any fun r => !w4 r g.Term)) = Z6 g := by
  unfold Z6;rw [h, Bool.true_and, List.not_any_eq_all_not];congr 1; funext r; rw [Bool.not_not]
def Cy9 (a b : AE7) : Bool := (a.Ver == b.Ver) && decide (a.Cuts = b.Cuts) && decide (a.Groups = b.Groups)
def hit (r : AE7 × Bool) (b : AE7) : Bool := r.2 && Cy9 r.1 b
abbrev u6 (n : Nat) : Str := Lib.decDigits n
abbrev AO8 (n : Int) : Str := Lib.itoa n
theorem AL9 {n : Nat} (h : n < 10) : u6 n = [UInt8.ofNat (48 + n)] := Lib.decDigits_one h
theorem AY0 {n : Nat} (h : ¬ n < 10) : u6 n = u6 (n / 10) ++ [UInt8.ofNat (48 + n % 10)] := by
  show Lib.decDigits n = _
  rw [Lib.decDigits, dif_neg h]
theorem As5 : ∀ {k n : Nat}, n < 10 ^ k → 1 ≤ k → (u6 n).length ≤ k
  | 0, _, _, h => by omega
  | k + 1, n, h, _ => by
    by_cases hn : n < 10
    · rw [AL9 hn]; simp
    · rw [AY0 hn, H3]
      have : k ≠ 0 := by rintro rfl; simp at h; omega
      have h2 := As5 (k := k) (n := n / 10) (by rw [Nat.pow_succ] at h; omega) qz8;simp only [H8, Q1]; omega
theorem As6 (n : Nat) : AO8 n = u6 n := Lib.itoa_nonneg n
theorem itoa_pos {n : Int} (h : 0 ≤ n) : AO8 n = u6 n.toNat := by
  obtain ⟨m, rfl⟩ : ∃ m : Nat, n = (m : Int) := ⟨n.toNat, by omega⟩;rw [As6]; rfl
theorem u8w2 {x : Int} {m : Nat} (h : x % 256 = ((m % 256 : Nat) : Int)) : IntKind.u8.wrap x = ((UInt8.ofNat m).toNat : Int) := by
  have : (UInt8.ofNat m).toNat = m % 256 := by simp
  rw [this, ← h];simp [IntKind.wrap, IntKind.bits, IntKind.signed]
theorem dig1 (n : Nat) : IntKind.u8.wrap (48 + (n : Int)) = ((UInt8.ofNat (48 + n)).toNat : Int) := u8w2 qz8
theorem tmod10T (n : Nat) : (n : Int).tmod 10 = ((n % 10 : Nat) : Int) := rfl
theorem dig2 (n : Nat) : IntKind.u8.wrap (48 + (n : Int).tmod 10) = ((UInt8.ofNat (48 + n % 10)).toNat : Int) := by
  rw [show (n : Int).tmod 10 = ((n % 10 : Nat) : Int) from rfl]; exact u8w2 qz8
theorem quo10 {n : Nat} (h : n ≤ 1000000000000) : IntKind.i64.wrap ((n : Int).tdiv 10) = ((n / 10 : Nat) : Int) := by
  rw [show (n : Int).tdiv 10 = ((n / 10 : Nat) : Int) from rfl];simp [IntKind.wrap, IntKind.bits, IntKind.signed];omega
def Av5 (b : UInt8) : Bool := decide (48 ≤ b.toNat) && decide (b.toNat ≤ 57)
theorem Ca4 (n : Nat) : ∀ b ∈ u6 n, 48 ≤ b.toNat ∧ b.toNat ≤ 57 := by
  induction n using Nat.strongRecOn with
  | ind n ih =>
    intro b hb;by_cases h : n < 10
    · rw [AL9 h] at hb
      rw [Z5.1 hb];have : (UInt8.ofNat (48 + n)).toNat = (48 + n) % 256 := by simp
      omega
    · rw [AY0 h] at hb
      rcases o5.1 hb with hb | hb
      · exact ih (n / 10) qz8 b hb
      · rw [Z5.1 hb]
        have : (UInt8.ofNat (48 + n % 10)).toNat = (48 + n % 10) % 256 := by simp
        omega
theorem DD3 {n : Nat} (hn : 0 < n) : ∃ d r, u6 n = d :: r ∧ d.toNat ≠ 48 := by
  induction n using Nat.strongRecOn with
  | ind n ih =>
    by_cases h : n < 10
    · refine ⟨_, _, AL9 h, ?_⟩
      have : (UInt8.ofNat (48 + n)).toNat = (48 + n) % 256 := by simp
      omega
    · obtain ⟨d, r, e, hd⟩ := ih (n / 10) qz8 qz8
      exact ⟨d, r ++ [UInt8.ofNat (48 + n % 10)], by rw [AY0 h, e]; rfl, hd⟩
theorem Bg7 (n : Nat) : u6 n ≠ [] := by
  by_cases h : n < 10
  · rw [AL9 h]; simp
  · rw [AY0 h]; simp
theorem Cp4 {d : UInt8} (hd : 48 ≤ d.toNat ∧ d.toNat ≤ 57) : ∀ (l : Str) (acc u : Nat), Lib.parseUint10 acc l = .ok u → u < 100000000000000000 → Lib.parseUint10 acc (l ++ [d]) = .ok (u * 10 + (d.toNat - 48))
  | [], acc, u, h, hu => by
    simp only [Lib.parseUint10] at h;injection h with h
    subst h;simp only [AC0, Lib.parseUint10];rw [D0 hd, C6 qz8, C6 qz8]
  | c :: r, acc, u, h, hu => by
    simp only [Lib.parseUint10] at h;show Lib.parseUint10 acc (c :: (r ++ [d])) = _
    simp only [Lib.parseUint10];split at h
    · rename_i h1
      rw [D0 h1];split at h
      · cases h
      · rename_i h2
        rw [C6 h2];split at h
        · cases h
        · rename_i h3
          rw [C6 h3];exact Cp4 hd r _ u h hu
    · cases h
theorem pu_dec (n : Nat) : n ≤ 1000000000000 → Lib.parseUint10 0 (u6 n) = .ok n := by
  induction n using Nat.strongRecOn with
  | ind n ih =>
    intro hn;by_cases h : n < 10
    · rw [AL9 h]
      have : (UInt8.ofNat (48 + n)).toNat = 48 + n := by simp; omega
      simp only [Lib.parseUint10, this];rw [D0 qz8, C6 qz8, C6 qz8];congr 1; omega
    · rw [AY0 h]
      have h8 : (UInt8.ofNat (48 + n % 10)).toNat = 48 + n % 10 := by simp; omega
      rw [Cp4 qz8 _ 0 (n / 10) (ih (n / 10) qz8 qz8) qz8, h8];congr 1; omega
theorem atoi_dec {n : Nat} (h : n ≤ 1000000000000) : Lib.atoiAll (u6 n) = .ok (n : Int) := by
  have hp := pu_dec n h;have hdg := Ca4 n
  cases hl : u6 n with
  | nil => exact absurd hl (Bg7 n)
  | cons c r =>
    rw [hl] at hp hdg;have hc := hdg c Y9;unfold Lib.atoiAll Lib.parseMag;dsimp only;rw [C6 (show ¬ (c.toNat = 43 ∨ c.toNat = 45) by omega), C6 Z1, hp];dsimp only;rw [C6 qz8, C6 qz8, C6 qz8]
def AM4 (s : Str) : Int := match Lib.atoiAll s with | .ok v => v | .range => Lib.atoiSat s | _ => 0
def AP8 (s : Str) : Bool := match Lib.atoiAll s with | .ok _ => false | _ => true
def AM5 (s : Str) (lo hi : Int) : Int × Bool := if ((AP8 s || !within (AM4 s) lo hi) || (AO8 (AM4 s) != s)) = true then (0, false) else (AM4 s, true)
theorem DD4 {n : Nat} {lo hi : Int} (h : n ≤ 1000000000000) (hw : within n lo hi = true) : AM5 (u6 n) lo hi = ((n : Int), true) := by
  have e := atoi_dec h;have e1 : AM4 (u6 n) = n := by unfold AM4; rw [e]
  have e2 : AP8 (u6 n) = false := by unfold AP8; rw [e]
  unfold AM5;rw [e1, e2, hw, As6, C6 Z1]
def X6 (n : Nat) : Str → Int
  | [] => n
  | b :: s => if Av5 b = true then X6 (10 * n + (b.toNat - 48)) s else -1
def Ax0 (s : Str) : Bool := !within s.length 1 6 || ((s.head?.map fun b => b == 48).getD false && decide ((1 : Int) < (s.length : Int)))
def l1R (s : Str) : Int := if Ax0 s = true then -1 else X6 0 s
theorem Cp5 {d : UInt8} (hd : 48 ≤ d.toNat ∧ d.toNat ≤ 57) : ∀ (s : Str) (m v : Nat), X6 m s = (v : Int) → X6 m (s ++ [d]) = ((10 * v + (d.toNat - 48) : Nat) : Int)
  | [], m, v, h => by
    simp only [X6] at h;have : m = v := by omega
    subst this;simp only [AC0, X6];rw [D0 (by unfold Av5; simp; omega)]
  | b :: s, m, v, h => by
    simp only [X6] at h;show X6 m (b :: (s ++ [d])) = _
    simp only [X6];split at h
    · rename_i h1
      rw [D0 h1];exact Cp5 hd s _ v h
    · exfalso; omega
theorem rd_dec (n : Nat) : X6 0 (u6 n) = (n : Int) := by
  induction n using Nat.strongRecOn with
  | ind n ih =>
    by_cases h : n < 10
    · rw [AL9 h]
      have h8 : (UInt8.ofNat (48 + n)).toNat = 48 + n := by simp; omega
      simp only [X6, h8];rw [D0 (by unfold Av5; rw [h8]; simp; omega)];congr 1; omega
    · rw [AY0 h]
      have h8 : (UInt8.ofNat (48 + n % 10)).toNat = 48 + n % 10 := by simp; omega
      rw [Cp5 qz8 _ 0 (n / 10) (ih (n / 10) qz8), h8];congr 1; omega
theorem Cp6 {n : Nat} (h : n ≤ 999999) : l1R (u6 n) = n := by
  have hl := As5 (k := 6) (n := n) qz8 F1;have hne := Bg7 n;have hpos : 1 ≤ (u6 n).length := by
    cases hd : u6 n with
    | nil => exact absurd hd hne
    | cons b r => simp
  unfold l1R;rw [C6, rd_dec];unfold Ax0 within
  simp only [AA9, i6, E8, not_or, not_and];refine ⟨by simp; omega, fun hh hlt => ?_⟩;by_cases hz : n = 0
  · subst hz
    have : (u6 0).length = 1 := by rw [AL9 F1]; rfl
    simp at hlt; omega
  · obtain ⟨d, r, e, hd⟩ := DD3 (n := n) qz8
    rw [e] at hh;simp at hh;rw [hh] at hd;exact hd rfl
structure GoodC (c : AA1) : Prop where
  time : ∃ t : Nat, c.Time = (t : Int) ∧ 1 ≤ t ∧ t ≤ 100000
  group : ∃ g : Nat, c.Group = (g : Int) ∧ g ≤ 3
  key : 1 ≤ c.Key.length ∧ (32 : UInt8) ∉ c.Key ∧ (61 : UInt8) ∉ c.Key
  val : (32 : UInt8) ∉ c.Val ∧ (61 : UInt8) ∉ c.Val
  gone : c.Gone = true → c.Val = []
def Aa5 (k : Int) : Bool := k == 2 || k == 7
def Aj1 (k : Int) : Bool := k == 4 || k == 5
def BF1 (o : TOp) : Bool := within o.Kind 1 7 && f6 o.Key && Aa1 o.Val && (Aa5 o.Kind || o.Val == []) && within o.By (-9999) 9999 && (Aj1 o.Kind || o.By == 0)
def AE8 (l : List TOp) : Bool := decide ((l.length : Int) ≤ 8) && !(l.any fun o => !BF1 o)
def Bd7 (o : TOp) : Bool := if n1 o.Key = false then false else if Aa5 o.Kind = true then AO6 o.Val && (o.By == 0) else if Aj1 o.Kind = true then (o.Val == []) && within o.By (-9999) 9999 else (((o.Kind == 1 || o.Kind == 3) || o.Kind == 6) && o.Val == []) && (o.By == 0)
def Aq5 (l : List TOp) : Bool := l.all Bd7 && decide ((l.length : Int) ≤ 8)
theorem Cp7 (o : TOp) : BF1 o = Bd7 o := by
  obtain ⟨K, k, v, b⟩ := o;unfold BF1 Bd7 Aa5 Aj1 within
  dsimp only;rw [AA7, Br9];have hv : AO6 [] = true := by decide
  cases hk : n1 k with
  | false => simp
  | true =>
    simp only [Bool.and_true, Bool.true_eq_false, if_false];by_cases h2 : K = 2
    · subst h2; cases AO6 v <;> simp <;> (by_cases hb : b = 0 <;> simp [hb])
    · by_cases h7 : K = 7
      · subst h7; cases AO6 v <;> simp <;> (by_cases hb : b = 0 <;> simp [hb])
      · have e2 : (K == 2) = false := by simpa using h2
        have e7 : (K == 7) = false := by simpa using h7
        by_cases h4 : K = 4
        · subst h4; cases v <;> simp [hv]
        · by_cases h5 : K = 5
          · subst h5; cases v <;> simp [hv]
          · have e4 : (K == 4) = false := by simpa using h4
            have e5 : (K == 5) = false := by simpa using h5
            rw [e2, e7, e4, e5]
            cases v with
            | nil =>
              by_cases hb : b = 0
              · subst hb
                rw [AO5];simp [hv]; omega
              · have eb : (b == 0) = false := by simpa using hb
                simp [eb]
            | cons c v => simp
theorem BT1 (l : List TOp) : AE8 l = Aq5 l := by
  unfold AE8 Aq5;rw [List.not_any_eq_all_not, Bool.and_comm];congr 1
  congr 1; funext o; rw [Bool.not_not, Cp7]
def l5N (s : Str) : Int × Bool :=
  if (decide (l1R (if s.head? = some 45 then s.drop 1 else s) < 0) || (decide (s.head? = some 45) && (l1R (if s.head? = some 45 then s.drop 1 else s) == 0))) = true then (0, false)
  else if s.head? = some 45 then (-(l1R (s.drop 1)), true) else (l1R s, true)
structure GoodO (o : TOp) : Prop where
  kind : 1 ≤ o.Kind ∧ o.Kind ≤ 7
  key : (32 : UInt8) ∉ o.Key ∧ (59 : UInt8) ∉ o.Key
  val : (32 : UInt8) ∉ o.Val ∧ (59 : UInt8) ∉ o.Val
  noval : Aa5 o.Kind = false → o.Val = []
  noby : Aj1 o.Kind = false → o.By = 0
  by' : -9999 ≤ o.By ∧ o.By ≤ 9999
theorem An6 {n : Nat} (h : 1 ≤ n) : AO8 (-(n : Int)) = 45 :: u6 n := by
  show Lib.itoa _ = _
  unfold Lib.itoa;rw [D0 qz8]; simp
theorem Cv3 {n : Nat} (h1 : 1 ≤ n) (h : n ≤ 1000000000000) : Lib.atoiAll (45 :: u6 n) = .ok (-(n : Int)) := by
  have hp := pu_dec n h
  cases hl : u6 n with
  | nil => exact absurd hl (Bg7 n)
  | cons c r =>
    rw [hl] at hp;unfold Lib.atoiAll Lib.parseMag;dsimp only;rw [D0 (show (45 : UInt8).toNat = 43 ∨ (45 : UInt8).toNat = 45 from .inr rfl), C6 Z1, hp];dsimp only;rw [C6 Z1, C6 AB6, D0 C1]
theorem Cv4 {n lo hi : Int} (hn : -1000000 ≤ n ∧ n ≤ 1000000) (hw : within n lo hi = true) : AM5 (AO8 n) lo hi = (n, true) := by
  by_cases h0 : 0 ≤ n
  · obtain ⟨m, rfl⟩ : ∃ m : Nat, n = (m : Int) := ⟨n.toNat, by omega⟩
    rw [As6, DD4 qz8 hw]
  · obtain ⟨m, rfl⟩ : ∃ m : Nat, n = -(m : Int) := ⟨n.natAbs, by omega⟩
    have e0 := An6 (n := m) qz8;have e := Cv3 (n := m) qz8 qz8;have e1 : AM4 (AO8 (-(m : Int))) = -(m : Int) := by unfold AM4; rw [e0, e]
    have e2 : AP8 (AO8 (-(m : Int))) = false := by unfold AP8; rw [e0, e]
    unfold AM5;rw [e1, e2, hw, C6 Z1]
theorem Bn8 {n : Nat} : (u6 n).head? ≠ some 45 := fun h => by
  have := Ca4 n 45 (List.mem_of_mem_head? h)
  revert this; decide
theorem l5N_itoa {n : Int} (hn : -999999 ≤ n ∧ n ≤ 999999) : l5N (AO8 n) = (n, true) := by
  by_cases h0 : 0 ≤ n
  · obtain ⟨m, rfl⟩ : ∃ m : Nat, n = (m : Int) := ⟨n.toNat, by omega⟩
    have e := Cp6 (n := m) qz8;unfold l5N;rw [As6, C6 (c := (u6 m).head? = some 45) Bn8, e, C6 (by simp [Bn8]), C6 Bn8]
  · obtain ⟨m, rfl⟩ : ∃ m : Nat, n = -(m : Int) := ⟨n.natAbs, by omega⟩
    have e := Cp6 (n := m) qz8;have hh : (45 :: u6 m : Str).head? = some 45 := rfl;have hd : (45 :: u6 m : Str).drop 1 = u6 m := rfl;unfold l5N;rw [An6 qz8, D0 (c := (45 :: u6 m : Str).head? = some 45) hh, hd, e, C6 AB6, D0 hh]
theorem Cv5 {l : List TOp} (h : AE8 l = true) : ∀ o ∈ l, BF1 o = true := fun o ho => by
  rw [BT1] at h;unfold Aq5 at h;rw [E8, l5] at h;rw [Cp7]; exact h.1 o ho
end Go.M
namespace Go.PQ
open Go.Proofs
open Go Go.AV Go.M
attribute [local irreducible] OpW OpA OpS AWP J6 L3 K7 OpE K2 H9 K6 Le Ev F7 M7 f8 Int.tmod Int.tdiv IntKind.wrap T7
theorem BH7 (g : C4) (r : Int) (up : Bool) (hs : g.size ≤ 1048576) : E1 220 [AV.agg g.cs, AV.int r, AV.bool up] (AV.bool (BF0 g r up)) := by
  have hrs : C7 E6.size g.Reps ≤ 1048576 := hs;have hll : g.Reps.length ≤ 1048576 := L8 L9 hrs;have hir : within r 0 (((g.Reps.map E6.cs).length : Int) - 1) = Ah6 g r := by unfold Ah6; rw [A7]
  refine B3 Tryz.func220 rfl Tryz.ntmps220 rfl ?_;refine R3 ?_;intro b3;refine R5 ?_;refine A1 rfl (A5 rfl Tryz.call53 rfl (AR4 _ W1) (A2 (A0 rfl) B0)) ?_;refine R6 ?_;refine L6 rfl (fun hc => A5 rfl Tryz.call24 rfl (P3 _ _ _) (A2 (A9 rfl hc) (A2 L1 (A2 (A9 rfl hc) B0)))) ?_;refine R5 ?_;refine L6 rfl (fun hc => D3 rfl G6 J2 (A9 rfl hc) (A9 rfl hc) (p5 (Ad4.1 (hir ▸ Az2 hc))) (by have h9 := (Ad4.1 (hir ▸ Az2 hc)).1; omega)) ?_;refine R3 ?_;refine L6 rfl (fun hc => CU3 rfl m3 (A9 rfl hc) (A9 rfl hc)) ?_;refine R4 ?_;exact D6 rfl (A6 rfl (by exact C3 AV.bool (by rw [hir]; rfl)))
theorem Ca5 (g : C4) (r : Int) (hs : g.size ≤ 1048576) : M1 225 [AV.agg g.cs, AV.int r] [] (fun _ : Value => True) (fun v => C4.fow (q9 g r).1 v) (fun v => AV.tup [AV.agg (C4.fcs (q9 g r).1 v), AV.bool (q9 g r).2]) := by
 refine C8 Tryz.func225 rfl Tryz.ntmps225 rfl ?_;refine R3 ?_;intro b2;refine R1 ?_;intro b4;refine R7 ?_;refine A1 rfl (A5 rfl Tryz.call220 rfl (BH7 _ _ _ W1) (A2 (A0 rfl) (A2 (A0 rfl) (A2 Af6 B0)))) ?_;refine R2 ?_;refine A3 ?_ ?_
 ·intro h10;have he : q9 g r = (AH5, false) := (by unfold q9; rw [C6 At9]);rw [he];refine R7 ?_;refine Y3 131 3 ?_;exact I4 [0] (E4) (trivial) rfl qz91 (g9 rfl F1 (I3 (F3 (ys := _) 1 rfl rfl O4 E0 rfl) X8))
 intro h10;have hu : BF0 g r true = true := At9;obtain ⟨gg, hr, hup⟩ := Ad5.1 hu;have hx := p5 hr;have he : q9 g r = (⟨g.Reps.set r.toNat ⟨false, (N9 g r).Log, (N9 g r).Sure⟩, g.Term, if g.Lead = r then -1 else g.Lead⟩, true) := D0 hu;rw [he];refine R4 ?_;refine F8 [] rfl rfl rfl rfl Tryz.call158 rfl (Al6 g hs) J3 rfl ?_;intro x13 ok13;refine R1 ?_;intro b6;refine R7 ?_;refine A1 rfl (H6 1 rfl G6 J2 (A0 rfl) rfl (A0 rfl) qz8 AJ9) ?_;refine A1 rfl (L7 1 rfl r9 rfl V0 (A0 rfl) rfl rfl qz5) ?_;refine g6 1 rfl rfl rfl (A0 rfl) Af6 (Af8 _) rfl V0 qz5 rfl ?_;refine R9 ?_;refine A3 ?_ ?_
 ·intro h22;have k22 := J9 h22;(try simp only [A7] at k22);rw [D0 k22];refine R11 ?_;exact I4 [1] x13 (trivial) rfl qz91 (g9 rfl F1 (I3 (F3 (ys := _) 2 rfl rfl O4 E0 rfl) X8))
 intro h22;have k22 := J5 h22;(try simp only [A7] at k22);rw [C6 k22];refine R8 ?_;exact I4 [1] x13 (trivial) rfl qz91 (g9 rfl F1 (I3 (F3 (ys := _) 2 rfl rfl O4 E0 rfl) X8))
theorem CO9 (g : C4) (r : Int) (hs : g.size ≤ 1048576) : E1 225 [AV.agg g.cs, AV.int r] (AV.tup [AV.agg (q9 g r).1.cs, AV.bool (q9 g r).2]) :=
  L5 (Ca5 g r hs) fun v _ => AK9 (D5 (C4.fl _ v) (D5 I0 d5))
theorem Ca6 (g : C4) (r : Int) (hs : g.size ≤ 1048576) : M1 226 [AV.agg g.cs, AV.int r] [] (fun _ : Value => True) (fun v => C4.fow (t7 g r).1 v) (fun v => AV.tup [AV.agg (C4.fcs (t7 g r).1 v), AV.bool (t7 g r).2]) := by
 refine C8 Tryz.func226 rfl Tryz.ntmps226 rfl ?_;refine R3 ?_;intro b2;refine R1 ?_;intro b4;refine R7 ?_;refine A1 rfl (A5 rfl Tryz.call220 rfl (BH7 _ _ _ W1) (A2 (A0 rfl) (A2 (A0 rfl) (A2 Af6 B0)))) ?_;refine R2 ?_;refine A3 ?_ ?_
 ·intro h10;have he : t7 g r = (AH5, false) := (by unfold t7; rw [C6 At9]);rw [he];refine R7 ?_;refine Y3 131 3 ?_;exact I4 [0] (E4) (trivial) rfl qz91 (g9 rfl F1 (I3 (F3 (ys := _) 1 rfl rfl O4 E0 rfl) X8))
 intro h10;have hu : BF0 g r false = true := At9;obtain ⟨gg, hr, hup⟩ := Ad5.1 hu;have hx := p5 hr;have he : t7 g r = (⟨g.Reps.set r.toNat ⟨true, (N9 g r).Log, (N9 g r).Sure⟩, g.Term, g.Lead⟩, true) := D0 hu;rw [he];refine R4 ?_;refine F8 [] rfl rfl rfl rfl Tryz.call158 rfl (Al6 g hs) J3 rfl ?_;intro x13 ok13;refine R1 ?_;intro b6;refine R7 ?_;refine A1 rfl (H6 1 rfl G6 J2 (A0 rfl) rfl (A0 rfl) qz8 AJ9) ?_;refine A1 rfl (L7 1 rfl r9 rfl V0 (A0 rfl) rfl rfl qz5) ?_;refine g6 1 rfl rfl rfl (A0 rfl) Af6 (Af8 _) rfl V0 qz5 rfl ?_;refine R8 ?_;exact I4 [1] x13 (trivial) rfl qz91 (g9 rfl F1 (I3 (F3 (ys := _) 2 rfl rfl O4 E0 rfl) X8))
theorem CP0 (g : C4) (r : Int) (hs : g.size ≤ 1048576) : E1 226 [AV.agg g.cs, AV.int r] (AV.tup [AV.agg (t7 g r).1.cs, AV.bool (t7 g r).2]) :=
  L5 (Ca6 g r hs) fun v _ => AK9 (D5 (C4.fl _ v) (D5 I0 d5))
theorem Au7 (l : List I5) : E1 271 [AV.list 8 (l.map I5.cs)] (AV.int (AT6 l)) := by
 refine B3 Tryz.func271 rfl Tryz.ntmps271 rfl ?_;refine l7 (t := 0) rfl fun hl => ?_;try simp only [A7] at hl
 refine R11 ?_;refine A3 ?_ ?_
 ·intro h5;have k5 := J9 h5;(try simp only [A7] at k5);rw [Cu9 (show l.length = 0 by omega)];refine R5 ?_;exact D6 rfl (A6 rfl C1)
 intro h5;have k5 := J5 h5;(try simp only [A7] at k5);obtain ⟨e, hx⟩ := B4 (show l.length - 1 < l.length by omega);have hx2 : l[(((l.map I5.cs).length : Int) - 1).toNat]? = some e := (by rw [A7, show ((l.length : Int) - 1).toNat = l.length - 1 by omega]; exact hx);rw [DD2 hx];refine R7 ?_;refine A1 rfl (D3 rfl O9 V2 (A0 rfl) (A0 rfl) hx2 (by rw [A7]; omega)) ?_;refine R5 ?_;exact D6 rfl (A6 rfl C1)
theorem Ca7 (a b : List I5) : E1 221 [AV.list 8 (a.map I5.cs), AV.list 8 (b.map I5.cs)] (AV.bool (At1 a b)) := by
 refine B3 Tryz.func221 rfl Tryz.ntmps221 rfl ?_;refine R8 ?_;refine A1 rfl (A5 rfl Tryz.call271 rfl (Au7 _) J3) ?_;refine R1 ?_;refine A1 rfl (A5 rfl Tryz.call271 rfl (Au7 _) J3) ?_;refine R2 ?_;refine A3 ?_ ?_
 ·intro h9;have k9 := CG3 h9;(try simp only [A7] at k9);have he : At1 a b = decide (AT6 b < AT6 a) := (by unfold At1; rw [beq_eq_false_iff_ne.2 k9]; simp);rw [he];refine R3 ?_;refine A1 rfl (A5 rfl Tryz.call271 rfl (Au7 _) J3) ?_;refine R1 ?_;refine A1 rfl (A5 rfl Tryz.call271 rfl (Au7 _) J3) ?_;refine R4 ?_;exact D6 rfl (A6 rfl (by first | rfl | (rw [A7, A7])))
 intro h9;have k9 := BG5 h9;(try simp only [A7] at k9);have he : At1 a b = decide ((b.length : Int) < (a.length : Int)) := (by unfold At1; rw [k9]; simp);rw [he];refine R11 ?_;exact D6 rfl (A6 rfl (by first | rfl | (rw [A7, A7])))
theorem Ca8 (g : C4) (r : Int) (hs : g.size ≤ 1048576) : M1 179 [AV.agg g.cs, AV.int r] [] (fun _ : Value => True) (fun v => C4.fow (Z9 g r).1 v) (fun v => AV.tup [AV.agg (C4.fcs (Z9 g r).1 v), AV.bool (Z9 g r).2]) := by
 refine C8 Tryz.func179 rfl Tryz.ntmps179 rfl ?_;refine R3 ?_;intro b2;refine R1 ?_;intro b4;refine R7 ?_;refine A1 rfl (A5 rfl Tryz.call220 rfl (BH7 _ _ _ W1) (A2 (A0 rfl) (A2 (A0 rfl) (A2 Af6 B0)))) ?_;refine R7 ?_;refine A3 ?_ ?_
 ·intro h17;have he : Z9 g r = (AH5, false) := (by unfold Z9; rw [C6 (by rintro ⟨a, b⟩; simp only [E8, i6] at a; rw [a.1, a.2] at h17; cases h17)]);rw [he];refine R7 ?_;refine Y3 131 3 ?_;exact I4 [0] (E4) (trivial) rfl C1 (g9 rfl F1 (I3 (F3 (ys := _) 1 rfl rfl O4 E0 rfl) X8))
 intro h17;have hh := h17;simp only [r5, AD5] at hh;obtain ⟨hu, ht⟩ := hh;obtain ⟨gg, hr, hup⟩ := Ad5.1 hu;have hxr := p5 hr;have hll : g.Reps.length ≤ 5 := (by have h9 := gg.many; omega);have htm := gg.term;refine R11 ?_;refine J0 [(1, _), (2, _), (4, _), (5, _)] _ (fun (i : Nat) (m : Nat) => i ≤ g.Reps.length ∧ m ≤ i ∧ m = ((g.Reps.take i).filter fun x => x.Up && !At1 x.Log (N9 g r).Log).length) (fun i m => []) (fun i m => [(6, AV.int m), (7, AV.int i)]) (fun i m => g.Reps.length - i) (0) (0) ?_ (G3 A8) ?_
 ·exact ⟨E2 _, K5 _, rfl⟩
 intro i m hinv;refine R9 ?_;refine A3 ?_ ?_
 ·intro h23;have k23 := C5 h23;have hlt : i < g.Reps.length := Be3;obtain ⟨x, hx⟩ := B4 hlt;refine R8 ?_;refine C0 rfl rfl (D3 rfl G6 J2 (A0 rfl) (A0 rfl) hx qz2) ?_;refine R6 ?_;refine Q4 rfl (V1 rfl rfl rfl) (fun hc => D3 rfl G6 J2 (A9 rfl hc) (A9 rfl hc) hx qz6) ?_;refine R5 ?_;refine Q4 rfl (V1 rfl rfl rfl) (fun hc => D3 rfl G6 J2 (A9 rfl hc) (A9 rfl hc) hxr qz8) ?_;refine R2 ?_;refine Q4 rfl (V1 rfl rfl rfl) (fun hc => A5 rfl Tryz.call221 rfl (Ca7 _ _) (A2 (A9 rfl hc) (A2 (A9 rfl hc) B0))) ?_;refine R3 ?_;refine A3 ?_ ?_
  ·intro h47;refine R10 ?_;refine G8 i m (i + 1) (m + 1) ?_ ?_ (G3 A8)
   ·exact ⟨by omega, by omega, by rw [Aa9 hx, D0 h47, hinv.2.2]⟩
   omega
  intro h47;refine R6 ?_;refine G8 i m (i + 1) (m) ?_ ?_ (G3 A8)
  ·exact ⟨by omega, by omega, by rw [Aa9 hx, C6 (by rw [h47]; decide), Nat.add_zero]; exact hinv.2.2⟩
  omega
 intro h23;have k23 := B9 h23;have hge : g.Reps.length ≤ i := Be3;have hm := hinv.2.2;rw [P8 hge] at hm;refine R5 ?_;refine A1 rfl (Ah8 rfl L1 (A0 rfl) qz2) ?_;refine R5 ?_;refine A3 ?_ ?_
 ·intro h55;have k55 := C5 h55;have he : Z9 g r = (AH5, false) := (by unfold Z9; rw [C6 (by rintro ⟨a, b⟩; unfold Bd6 at b; have h9 := r3 b; rw [← hm] at h9; omega)]);rw [he];refine R7 ?_;refine Y3 131 3 ?_;exact I4 [0] (E4) (trivial) rfl C1 (g9 rfl F1 (I3 (F3 (ys := _) 1 rfl rfl O4 E0 rfl) X8))
 intro h55;have k55 := B9 h55;have he : Z9 g r = (⟨g.Reps, g.Term + 1, r⟩, true) := (by unfold Z9; rw [D0 ⟨by rw [hu, ht]; rfl, by unfold Bd6; rw [← hm]; exact i7 qz8⟩]);rw [he];refine R4 ?_;refine F8 [] rfl rfl rfl rfl Tryz.call158 rfl (Al6 g hs) J3 rfl ?_;intro x58 ok58;refine R1 ?_;intro b8;refine R23 ?_;exact I4 [1] x58 (trivial) rfl C1 (g9 rfl F1 (I3 (F3 (ys := _) 2 rfl rfl O4 E0 rfl) X8))
theorem CP1 (g : C4) (r : Int) (hs : g.size ≤ 1048576) : E1 179 [AV.agg g.cs, AV.int r] (AV.tup [AV.agg (Z9 g r).1.cs, AV.bool (Z9 g r).2]) :=
  L5 (Ca8 g r hs) fun v _ => AK9 (D5 (C4.fl _ v) (D5 I0 d5))
theorem Cv6 (g : C4) (r : Int) (hs : g.size ≤ 1048576) : M1 227 [AV.agg g.cs, AV.int r] [] (fun _ : Value => True) (fun v => C4.fow (AH3 g r).1 v) (fun v => AV.tup [AV.agg (C4.fcs (AH3 g r).1 v), AV.bool (AH3 g r).2]) := by
 refine C8 Tryz.func227 rfl Tryz.ntmps227 rfl ?_;refine R3 ?_;intro b2;refine R1 ?_;intro b4;refine R7 ?_;refine A1 rfl (A5 rfl Tryz.call220 rfl (BH7 _ _ _ W1) (A2 (A0 rfl) (A2 (A0 rfl) (A2 Af6 B0)))) ?_;refine R13 ?_;refine A3 ?_ ?_
 ·intro h22;have he : AH3 g r = (AH5, false) := (by unfold AH3; rw [C6 (by rintro ⟨a, b⟩; simp only [E8, H1] at a; rw [a.1, AJ6 (show ¬ g.Lead < 0 by omega), beq_eq_false_iff_ne.2 b] at h22; cases h22)]);rw [he];refine R7 ?_;refine Y3 131 3 ?_;exact I4 [0] (E4) (trivial) rfl qz175 (g9 rfl F1 (I3 (F3 (ys := _) 1 rfl rfl O4 E0 rfl) X8))
 intro h22;have hh := h22;simp only [r5, AD5, w5, beq_eq_false_iff_ne] at hh;obtain ⟨⟨hu, hl0⟩, hne⟩ := hh;obtain ⟨gg, hr, hup⟩ := Ad5.1 hu;have hld : 0 ≤ g.Lead ∧ g.Lead < g.Reps.length := (by rcases gg.lead with e | ⟨a, b, _⟩; omega; exact ⟨a, b⟩);have hxr := p5 hr;have hxl := p5 hld;have hls : C7 I5.size (N9 g g.Lead).Log ≤ 1048576 := L8 (U6 (f := E6.size) hxl) hs;have he : AH3 g r = (AW1 g r ⟨true, (N9 g g.Lead).Log, min ((N9 g g.Lead).Log.length : Int) (max (N9 g r).Sure (N9 g g.Lead).Sure)⟩, true) := (by unfold AH3; rw [D0 ⟨by rw [hu, i7 qz8]; rfl, hne⟩]);rw [he, ← Cv2];refine R4 ?_;refine F8 [] rfl rfl rfl rfl Tryz.call158 rfl (Al6 g hs) J3 rfl ?_;intro x25 ok25;refine R1 ?_;intro b6;refine R8 ?_;refine A1 rfl (D3 rfl G6 J2 (A0 rfl) (A0 rfl) hxl qz8) ?_;refine R2 ?_;refine A1 rfl (A5 rfl Tryz.call187 rfl (Ax8 _ hls) J3) ?_;refine R3 ?_;refine M6 23 D4 D4 rfl ?_;refine R9 ?_;refine C0 rfl rfl (D3 rfl G6 J2 (A0 rfl) (A0 rfl) hxr qz8) ?_;refine R6 ?_;refine C0 rfl rfl (D3 rfl G6 J2 (A0 rfl) (A0 rfl) hxl qz8) ?_;refine R2 ?_;refine C0 rfl rfl (A5 rfl Tryz.call160 rfl (Bb1 _ _) F0) ?_;refine C0 rfl rfl (A5 rfl Tryz.call272 rfl (CZ9 _ _) F0) ?_;refine R1 ?_;refine C0 rfl rfl (H6 1 rfl G6 J2 (A0 rfl) rfl (A0 rfl) qz8 AJ9) ?_;refine R1 ?_;refine j7 1 rfl rfl rfl (A0 rfl) (A0 rfl) (Z2 _) rfl J2 rfl AB7 ?_;refine R8 ?_;exact I4 [1] x25 (trivial) rfl qz175 (g9 rfl F1 (I3 (F3 (ys := _) 2 rfl rfl O4 E0 rfl) X8))
theorem Ck3 (g : C4) (r : Int) (hs : g.size ≤ 1048576) : E1 227 [AV.agg g.cs, AV.int r] (AV.tup [AV.agg (AH3 g r).1.cs, AV.bool (AH3 g r).2]) :=
  L5 (Cv6 g r hs) fun v _ => AK9 (D5 (C4.fl _ v) (D5 I0 d5))
theorem Ck4 (g : C4) (l : List I5) (n : Nat) (hs : g.size ≤ 1048576) (hn : n ≤ 1048576) : E1 273 [AV.agg g.cs, AV.list 8 (l.map I5.cs), AV.int (n : Int)] (AV.int ((g.Reps.filter fun x => AS1 x.Log l n).length : Nat)) := by
 have hll : g.Reps.length ≤ 1048576 := L8 (L9 (f := E6.size)) hs;refine B3 Tryz.func273 rfl Tryz.ntmps273 rfl ?_;refine R3 ?_;intro b3;refine R12 ?_;refine J0 [(1, _), (2, _), (3, _), (6, _)] _ (fun (i : Nat) (m : Nat) => i ≤ g.Reps.length ∧ m ≤ i ∧ m = ((g.Reps.take i).filter fun x => AS1 x.Log l n).length) (fun i m => []) (fun i m => [(7, AV.int m), (8, AV.int i)]) (fun i m => g.Reps.length - i) (0) (0) ?_ (G3 A8) ?_
 ·exact ⟨E2 _, K5 _, rfl⟩
 intro i m hinv;refine R9 ?_;refine A3 ?_ ?_
 ·intro h13;have k13 := C5 h13;have hlt : i < g.Reps.length := (by simpa using h13);obtain ⟨x, hx⟩ := B4 hlt;refine R8 ?_;refine A1 rfl (D3 rfl G6 J2 (A0 rfl) (A0 rfl) hx qz2) ?_;refine R4 ?_;refine A1 rfl (A5 rfl Tryz.call302 rfl (CO7 x.Log l n (L8 (U6 (f := E6.size) hx) hs) hn) AA5) ?_;refine R1 ?_;refine A3 ?_ ?_
  ·intro h24;refine R10 ?_;refine G8 i m (i + 1) (m + 1) ?_ ?_ (G3 A8)
   ·exact ⟨by omega, by omega, by rw [Aa9 hx, D0 h24, hinv.2.2]⟩
   omega
  intro h24;refine R6 ?_;refine G8 i m (i + 1) (m) ?_ ?_ (G3 A8)
  ·exact ⟨by omega, by omega, by rw [Aa9 hx, C6 (by rw [h24]; decide), Nat.add_zero]; exact hinv.2.2⟩
  omega
 intro h13;have k13 := B9 h13;have hge : g.Reps.length ≤ i := (by simpa using h13);have hm := hinv.2.2;rw [P8 hge] at hm;rw [← hm];refine R7 ?_;exact D6 rfl (A6 rfl C1)
theorem Ck5 (g : C4) (hs : g.size ≤ 1048576) : M1 228 [AV.agg g.cs] [] (fun _ : Value => True) (fun v => C4.fow (AM3 g).1 v) (fun v => AV.tup [AV.agg (C4.fcs (AM3 g).1 v), AV.bool (AM3 g).2]) := by
 refine C8 Tryz.func228 rfl Tryz.ntmps228 rfl ?_;refine R3 ?_;intro b1;refine R1 ?_;intro b2;refine R6 ?_;refine A1 rfl (A5 rfl Tryz.call53 rfl (AR4 _ W1) (A2 (A0 rfl) B0)) ?_;refine R7 ?_;refine A3 ?_ ?_
 ·intro h14;have he : AM3 g = (AH5, false) := (by unfold AM3; rw [C6 (by unfold Aa4; intro a; simp only [E8, H1] at a; rw [a.1, AJ6 (show ¬ g.Lead < 0 by omega)] at h14; cases h14)]);rw [he];refine R7 ?_;refine Y3 131 3 ?_;exact I4 [0] (E4) (trivial) rfl qz146 (g9 rfl F1 (I3 (F3 (ys := _) 1 rfl rfl O4 E0 rfl) X8))
 intro h14;have hh := h14;simp only [r5, AD5, w5] at hh;have hlead : Aa4 g = true := (by unfold Aa4; rw [hh.1, i7 qz8]; rfl);obtain ⟨gg, l0, l1, hup⟩ := Ai5.1 hlead;have hxl := p5 ⟨l0, l1⟩;have hgr := gg.reps _ (AE6 ⟨l0, l1⟩);obtain ⟨L, hL⟩ : ∃ L, N9 g g.Lead = L := ⟨_, rfl⟩;rw [hL] at hxl hgr;have hsr := hgr.sure;have hl6 := hgr.len;have hm5 : g.Reps.length ≤ 5 := (by have h9 := gg.many; omega);refine R4 ?_;refine F8 [] rfl rfl rfl rfl Tryz.call158 rfl (Al6 g hs) J3 rfl ?_;intro x17 ok17;refine R1 ?_;intro b4;refine R8 ?_;refine A1 rfl (D3 rfl G6 J2 (A0 rfl) (A0 rfl) hxl qz8) ?_;refine R2 ?_;intro b5;refine R8 ?_;try rw [show AV.ik IntKind.i64 ((n : Int) - 1) = AV.int ((n - 1 : Nat) : Int) from C3 AV.int (show (n : Int) - 1 = ((n - 1 : Nat) : Int) by omega)]
 refine R3 ?_;rw [show (List.map I5.cs L.Log).length = L.Log.length from A7 _];refine F2 [(1, _), (2, _), (4, _), (5, _)] _ (fun (n : Nat) => n ≤ L.Log.length ∧ AB8 (Ap5 g) L.Sure.toNat L.Log.length = AB8 (Ap5 g) L.Sure.toNat n) (fun n => []) (fun n => [(6, AV.int n)]) (fun n => n) (L.Log.length) ?_ (G3 A8) ?_
 ·exact ⟨K5 _, rfl⟩
 intro n hinv;refine R8 ?_;refine A3 ?_ ?_
 ·intro h30;have k30 := C5 h30;have hgt : L.Sure.toNat < n := by omega
  obtain ⟨x, hx⟩ := B4 (show n - 1 < L.Log.length by omega);have hx2 : L.Log[((n : Int) - 1).toNat]? = some x := (by rw [show ((n : Int) - 1).toNat = n - 1 by omega]; exact hx);have hadv : Ap5 g n = ((x.Term == g.Term) && decide ((g.Reps.length : Int) < 2 * ((g.Reps.filter fun x => AS1 x.Log L.Log n).length : Int))) := (by unfold Ap5 Bd6; rw [hL, hx, r6]; congr 1; rw [AO5, H1, j0]; exact ⟨fun e => by injection e, fun e => by rw [e]⟩);have hcnt := List.length_filter_le (fun x => AS1 x.Log L.Log n) g.Reps;refine R9 ?_;refine C0 rfl rfl (D3 rfl O9 V2 (A0 rfl) (A0 rfl) hx2 qz8) ?_;refine R10 ?_;refine Q4 rfl (V1 rfl rfl rfl) (fun hc => A5 rfl Tryz.call273 rfl (Ck4 _ _ _ W1 W1) (A2 (A9 rfl hc) (A2 (A9 rfl hc) (A2 (A9 rfl hc) B0)))) ?_;refine Q4 rfl (V1 rfl rfl rfl) (fun hc => Ah8 rfl L1 (A9 rfl hc) qz6) ?_;refine R6 ?_;refine A3 ?_ ?_
  ·intro h54;have hp : Ap5 g n = true := (by rw [hadv]; simpa using h54);have hfin : AB8 (Ap5 g) L.Sure.toNat L.Log.length = some n := (by rw [hinv.2]; exact Ca2 hgt hp);have he : AM3 g = (AW1 g g.Lead ⟨L.Up, L.Log, (n : Int)⟩, true) := (by unfold AM3; rw [D0 hlead, hL, hfin]);rw [he];refine R7 ?_;refine A1 rfl (H6 2 rfl G6 J2 (A0 rfl) rfl (A0 rfl) qz8 AJ9) ?_;refine A1 rfl (L7 2 rfl r9 rfl E7 (A0 rfl) rfl rfl qz83) ?_;refine g6 2 rfl rfl rfl (A0 rfl) (A0 rfl) (W4 _ _) rfl E7 qz83 rfl ?_;refine R8 ?_;exact I4 [2] x17 (trivial) rfl qz146 (g9 rfl F1 (I3 (F3 (ys := _) 3 rfl rfl O4 E0 rfl) X8))
  intro h54;have hp : ¬ Ap5 g n = true := (by rw [hadv]; simpa using h54);have hdown : AB8 (Ap5 g) L.Sure.toNat L.Log.length = AB8 (Ap5 g) L.Sure.toNat (n - 1) := (by rw [hinv.2]; exact Ck2 hgt hp);refine R4 ?_;try rw [show AV.ik IntKind.i64 ((n : Int) - 1) = AV.int ((n - 1 : Nat) : Int) from C3 AV.int (show (n : Int) - 1 = ((n - 1 : Nat) : Int) by omega)]
  refine R2 ?_;refine G4 n (n - 1) ?_ ?_ (G3 A8)
  ·exact ⟨by omega, hdown⟩
  omega
 intro h30;have k30 := B9 h30;have hfin : AB8 (Ap5 g) L.Sure.toNat L.Log.length = none := (by rw [hinv.2]; cases n with | zero => rfl | succ k => (unfold AB8; rw [D0 qz8]));have he : AM3 g = (g, true) := (by unfold AM3; rw [D0 hlead, hL, hfin]);rw [he];refine R8 ?_;exact I4 [2] x17 (trivial) rfl qz146 (g9 rfl F1 (I3 (F3 (ys := _) 3 rfl rfl O4 E0 rfl) X8))
theorem Ca9 (g : C4) (hs : g.size ≤ 1048576) : E1 228 [AV.agg g.cs] (AV.tup [AV.agg (AM3 g).1.cs, AV.bool (AM3 g).2]) :=
  L5 (Ck5 g hs) fun v _ => AK9 (D5 (C4.fl _ v) (D5 I0 d5))
theorem Cb0 (many : Int) : M1 152 [AV.int many] [] (fun _ : Value => True) (fun v => C4.fow (AM8 many).1 v) (fun v => AV.tup [AV.agg (C4.fcs (AM8 many).1 v), AV.bool (AM8 many).2]) := by
 refine C8 Tryz.func152 rfl Tryz.ntmps152 rfl ?_;refine R3 ?_;intro b2;refine R12 ?_;refine A3 ?_ ?_
 ·intro h11;have he : AM8 many = (AH5, false) := (by unfold AM8 AL2; rw [C6 (by simp only [E8, BA6] at h11; simp [h11.1, h11.2])]);rw [he];refine R7 ?_;refine Y3 131 3 ?_;exact I4 [0] (E4) (trivial) rfl C1 (g9 rfl F1 (I3 (F3 (ys := _) 1 rfl rfl O4 E0 rfl) X8))
 intro h11;have hm : many = 3 ∨ many = 5 := (by simp only [Bool.and_eq_false_iff, bne_eq_false_iff_eq] at h11; exact h11);obtain ⟨n, rfl⟩ : ∃ n : Nat, many = (n : Int) := ⟨many.toNat, by omega⟩;have he : AM8 (n : Int) = (⟨List.replicate n ⟨true, [], 0⟩, 0, -1⟩, true) := (by unfold AM8 AL2; rw [D0 (by rw [AA9, j0, j0]; exact hm)]; rfl);rw [he];refine R3 ?_;refine P6 rfl rfl rfl rfl G6 J2 ?_;intro v13;refine O7 0 rfl fun one_v13 => ?_;refine A1 rfl (Y6 (places := #[(0, 1), (1, 1), (2, 1)]) rfl W5 Tryz.zeroValue81 (fun w => by kernel_rfl) rfl (D8 (A0 rfl) (K4 one_v13) (D8 L1 (W4 _ _) U1)) rfl) ?_;refine R1 ?_;intro b4;refine R8 ?_;refine AWP.le (B8 [0, 0] rfl) ?_;refine J0 [(0, _), (2, _), (3, _), (4, _)] _ (fun (i : Nat) (v : Value) => i ≤ n) (fun i v => [.box b4 81 [AV.is v, AV.int 0, AV.int (-1)], .arr v 131 3 ((List.replicate i (⟨true, [], 0⟩ : E6)).map E6.cs)]) (fun i v => [(5, AV.int i)]) (fun i v => n - i) (0) (v13) ?_ (K1 C1 A8) ?_
 ·exact E2 _
 intro i v hinv;refine R7 ?_;refine A3 ?_ ?_
 ·intro h17;have k17 := C5 h17;refine R9 ?_;refine H4 (by' := 40) 1 rfl rfl rfl rfl G6 Tryz.type131 rfl rfl rfl rfl rfl rfl (A0 rfl) (A0 rfl) rfl (by simp only [A7, AT9, V8]; omega) ?_;intro v25_2;refine R1 ?_;refine O7 1 rfl fun one_v25_2 => ?_;refine N0 0 rfl rfl rfl (A0 rfl) (A0 rfl) (K4 one_v25_2) rfl AV3 rfl ?_;refine R6 ?_;refine G8 i v (i + 1) (v25_2) ?_ ?_ (Le.trans (B8 [0, 0] rfl) (K1 (by (rw [List.replicate_succ', X1]; rfl)) A8))
  ·exact qz8
  omega
 intro h17;have k17 := B9 h17;have hge : i = n := by omega
 subst hge;refine R8 ?_;exact I4 [1] v (trivial) rfl C1 (g9 rfl F1 (I3 (F3 (ys := _) 2 rfl rfl O4 E0 rfl) X8))
theorem CP2 (many : Int) : E1 152 [AV.int many] (AV.tup [AV.agg (AM8 many).1.cs, AV.bool (AM8 many).2]) :=
  L5 (Cb0 many) fun v _ => AK9 (D5 (C4.fl _ v) (D5 I0 d5))
end Go.PQ
namespace Go.PQ
open Go.Proofs
open Go Go.AV Go.M
attribute [local irreducible] OpW OpA OpS AWP J6 L3 K7 OpE K2 H9 K6 Le Ev F7 M7 f8 Int.tmod Int.tdiv IntKind.wrap T7
theorem Ck6 (g : C4) (r : Int) (hl : g.Reps.length ≤ 1048576) : E1 105 [AV.agg g.cs, AV.int r] (AV.bool (Ah6 g r)) := by
  refine B3 Tryz.func105 rfl Tryz.ntmps105 rfl ?_;refine R3 ?_;intro b2;refine R9 ?_;refine A1 rfl (A5 rfl Tryz.call39 rfl (Y8 _ _ _) Ay8) ?_;refine R3 ?_;exact D6 rfl (A6 rfl (by exact C3 AV.bool (by unfold Ah6; rw [A7])))
theorem Cb1 (n : Int) : E1 104 [AV.int n] (AV.bool (AL2 n)) := by
  refine B3 Tryz.func104 rfl Tryz.ntmps104 rfl ?_;refine R15 ?_;exact D6 rfl (A6 rfl qz9)
theorem Cv7 (l : List I5) (t : Int) (hll : l.length ≤ 1048576) (hs : ∀ e ∈ l, e.size ≤ 1048576) : E1 108 [AV.list 8 (l.map I5.cs), AV.int t] (AV.bool (At4 l t)) := by
 refine B3 Tryz.func108 rfl Tryz.ntmps108 rfl ?_;refine R12 ?_;refine J0 [(0, _), (1, _), (7, _), (8, _)] _ (fun (i : Nat) (p : Int) => (i ≤ l.length ∧ 1 ≤ p) ∧ ((i = 0 ∧ p = 1) ∨ (0 < i ∧ ∃ y, l[i - 1]? = some y ∧ y.Term = p)) ∧ AS0 t 1 l = AS0 t p (l.drop i)) (fun i p => []) (fun i p => [(9, AV.int i)]) (fun i p => l.length - i) (0) (1) ?_ (G3 A8) ?_
 ·exact ⟨⟨E2 _, by decide⟩, .inl ⟨rfl, rfl⟩, rfl⟩
 intro i p hinv;refine R5 ?_;refine A3 ?_ ?_
 ·intro h10;have k10 := C5 h10;have hlt : i < l.length := At9;obtain ⟨x, hx⟩ := B4 hlt;have hsx : x.Rec.size ≤ 1048576 := hs x (C2 hx);obtain ⟨y, hy⟩ := B4 (show i - 1 < l.length by omega);have hp : (i = 0 ∧ p = 1) ∨ (0 < i ∧ y.Term = p) := (by rcases hinv.2.1 with h9 | ⟨h9, z, hz, h8⟩; exact .inl h9; rw [hy] at hz; injection hz with hz; subst hz; exact .inr ⟨h9, h8⟩);refine R6 ?_;refine A1 rfl (D3 rfl O9 V2 (A0 rfl) (A0 rfl) hx qz2) ?_;refine R2 ?_;intro b6;refine R8 ?_;refine C0 rfl rfl (A5 rfl Tryz.call39 rfl (Y8 _ _ _) Ay8) ?_;refine R3 ?_;refine Q4 rfl (Y4 rfl rfl rfl) (fun hc => Bl5 _ 0 rfl (A9 rfl hc) rfl AV1 AD7 rfl rfl) ?_;refine Q4 rfl (Y4 rfl rfl rfl) (fun hc => A5 rfl Tryz.call140 rfl (CY4 _ W1) (A2 (A9 rfl hc) B0)) ?_;refine R11 ?_;refine Q4 rfl (X4 rfl rfl rfl) (fun hc => D3 rfl O9 V2 (A9 rfl hc) (A9 rfl hc) hy (by have h9 := r3 (Az2 hc); omega)) ?_;refine R6 ?_;refine A3 ?_ ?_
  ·intro h39;have he : At4 l t = false := (by unfold At4; rw [hinv.2.2, log_stop hx (by by_cases hgr : S1 x.Rec = false; exact .inr (.inr hgr); have h9 : x.Term < p ∨ t < x.Term := (by simp only [within, AA9, i6, Bool.and_eq_false_iff, w5, E8, H1] at h39; rcases hp with ⟨h0, h1⟩ | ⟨h0, h1⟩ <;> rcases h39 with (h9 | h9) | h9 <;> first | exact absurd h9 hgr | omega); exact h9.elim .inl fun h8 => .inr (.inl h8))]; rfl);rw [he];refine R5 ?_;exact D6 rfl (A6 rfl (by first | rfl | (rw [A7])))
  intro h39;have hgo : p ≤ x.Term ∧ x.Term ≤ t ∧ S1 x.Rec = true := (by simp only [within, r5, AD5, E8, H1, Bool.and_eq_false_iff, w5] at h39; obtain ⟨⟨⟨a1, a2⟩, a3⟩, a4⟩ := h39; refine ⟨?_, a2, a3⟩; rcases hp with ⟨h0, h1⟩ | ⟨h0, h1⟩ <;> omega);refine R5 ?_;refine G8 i p (i + 1) (x.Term) ?_ ?_ (S5 1 A8)
  ·exact ⟨⟨by omega, by omega⟩, .inr ⟨by omega, x, hx, rfl⟩, hinv.2.2.trans (log_next hx hgo)⟩
  omega
 intro h10;have k10 := B9 h10;have hge : l.length ≤ i := At9;have he : At4 l t = decide ((l.length : Int) ≤ 60) := (by unfold At4; rw [hinv.2.2, k6 hge]; rfl);rw [he];refine R9 ?_;exact D6 rfl (A6 rfl (by first | rfl | (rw [A7])))
theorem Bu3 (g : C4) (r : E6) (h : r.size ≤ 1048576) : E1 107 [AV.agg r.cs, AV.eptr g.cs] (AV.bool (!w4 r g.Term)) := by
  refine B3 Tryz.func107 rfl Tryz.ntmps107 rfl ?_;refine R3 ?_;intro b2;refine R8 ?_;refine A1 rfl (A5 rfl Tryz.call108 rfl (Cv7 r.Log g.Term (L8 (L9 (f := I5.size)) h) (fun e he => by obtain ⟨i, hi⟩ := X9 he; exact L8 (U6 (f := I5.size) hi) h)) F0) ?_;refine R7 ?_;refine Q7 rfl (fun hc => A5 rfl Tryz.call39 rfl (Y8 _ _ _) (A2 (A9 rfl hc) (A2 L1 (A2 (A9 rfl hc) B0)))) ?_;refine R5 ?_;exact D6 rfl (A6 rfl (by exact C3 AV.bool (by rw [← rep_eq, Bool.not_not, A7])))
theorem Bu4 (g : C4) (hs : g.size ≤ 1048576) : E1 64 [AV.agg g.cs] (AV.bool (Z6 g)) := by
 have hrs : C7 E6.size g.Reps ≤ 1048576 := hs;have hgl : g.Reps.length ≤ 1048576 := L8 L9 hrs;have hm : ∀ r ∈ g.Reps, r.size ≤ 1048576 := fun r hr => by obtain ⟨i, hi⟩ := X9 hr; exact L8 (U6 (f := E6.size) hi) hrs
 refine B3 Tryz.func64 rfl Tryz.ntmps64 rfl ?_;refine R3 ?_;intro b1;refine R8 ?_;refine A1 rfl (A5 rfl Tryz.call104 rfl (Cb1 _) J3) ?_;refine R4 ?_;refine Q7 rfl (fun hc => A5 rfl Tryz.call39 rfl (Y8 _ _ _) (A2 (A9 rfl hc) AO2)) ?_;refine R10 ?_;refine s9 rfl rfl (X4 rfl rfl rfl) (fun hc => A5 rfl Tryz.call105 rfl (Ck6 _ _ AC4) (A2 (A9 rfl hc) (A2 (A9 rfl hc) B0))) ?_;refine R5 ?_;refine s9 rfl rfl (X4 rfl rfl rfl) (fun hc => D3 rfl G6 J2 (A9 rfl hc) (A9 rfl hc) (p5 (Ad4.1 (Az2 hc))) (by have h9 := (Ad4.1 (Az2 hc)).1; omega)) ?_;refine R7 ?_;refine A3 ?_ ?_
 ·intro h34;have he : Z6 g = false := (by unfold Z6; rw [A7] at h34; cases h1 : AL2 g.Reps.length <;> cases h2 : within g.Term 0 200 <;> cases h3 : Ah6 g g.Lead <;> cases h4 : (N9 g g.Lead).Up <;> cases h5 : (g.Lead == -1) <;> simp_all);rw [he];refine R5 ?_;exact D6 rfl (A6 rfl (by first | rfl | exact C3 AV.bool (Ca3 g hok)))
 intro h34;have hok : (((AL2 g.Reps.length && within g.Term 0 200) && (g.Lead == -1 || (Ah6 g g.Lead && (N9 g g.Lead).Up)))) = true := (by rw [A7] at h34; cases h1 : AL2 g.Reps.length <;> cases h2 : within g.Term 0 200 <;> cases h3 : Ah6 g g.Lead <;> cases h4 : (N9 g g.Lead).Up <;> cases h5 : (g.Lead == -1) <;> simp_all);refine R5 ?_;refine A1 rfl (BG6 rfl rfl J3) ?_;refine A1 rfl (l8 rfl Tryz.call106 rfl (BD7 _ _ _ Ab8) (U0 _) (P1 (evb (A0 rfl)) (P1 (AQ4 (Ar2 0 (A0 rfl) rfl) (Ac1 Tryz.call107 (fun r (h : r.size ≤ 1048576) => Bu3 _ r h))) m8))) ?_;refine R4 ?_;exact D6 rfl (A6 rfl (by first | rfl | exact C3 AV.bool (Ca3 g hok)))
end Go.PQ