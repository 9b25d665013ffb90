/- Texts of the claim, part 2. -/
import Derived.Lib.AppendZerosOnto
import Derived.Lib.Overlaps
import Derived.Sort.Grow
import Derived.Lib.LaidTab
import Derived.Lib.ItoaNum
import Derived.Lib.Split
import Derived.Lib.SplitLaws
import Derived.Lib.ConvBytes
import Derived.WideLaws
import Derived.SizedLaws
import Derived.Laws.BytesArg
import Derived.Test.YtkibefcceekmnaaGreatDoorProg
import Derived.Test.YtkibefcceekmnaaGreatDoorRows
import Derived.Test.YtkibefcceekmnaaGreatDoorZVoted1
set_option linter.unusedVariables false
set_option linter.unusedSimpArgs false
set_option maxRecDepth 100000
set_option maxHeartbeats 4000000
set_option linter.defProp false
def I2 := @Go.Proofs.Tryz.underlying9
def C8 := @Go.Proofs.Tryz.isAgg31
def C5 := @Go.Proofs.Tryz.underlying29
def Q2 := @Go.Proofs.Tryz.underlying68
def B5 := @Go.Proofs.Tryz.underlying25
def C0 := @Go.Proofs.Tryz.sizeOf31
def I6 := @Go.Proofs.Tryz.sizeOf25
def Q3 := @Go.Proofs.Tryz.underlying22
def B1 := @Go.Proofs.Tryz.sizeOf28
def B0 := @Go.Proofs.Tryz.underlying24
def E4 := @Go.Proofs.Tryz.underlying31
def D0 := @Go.Proofs.Tryz.sizeOf3
def D2 := @Go.Proofs.Tryz.underlying40
def N6 := @Go.Proofs.Tryz.sizeOf4
def B4 := @Go.Proofs.Tryz.sizeOf40
def J5 := @Go.Proofs.Tryz.sizeOf56
def X1 := @Go.Proofs.Tryz.isAgg4
def Y6 := @Go.Proofs.Tryz.sizeOf29
def N5 := @Go.Proofs.Tryz.underlying32
def f9 := @Go.Proofs.Tryz.sizeOf51
def A9 := @Go.Proofs.Tryz.underlying26
def E2 := @Go.Proofs.Tryz.sizeOf68
def C2 := @Go.Proofs.Tryz.isAgg28
def Y7 := @Go.Proofs.Tryz.sizeOf26
def S6 := @Go.Proofs.Tryz.isAgg25
def K5 := @Go.Proofs.Tryz.isAgg3
def J8 := @Go.Proofs.Tryz.underlying3
def T5 := @Go.Proofs.Tryz.underlying4
def T2 := @Go.Proofs.Tryz.underlying5
namespace Go.AV
open Go.RowKit (Below)
section
variable {P : Program} {G : Nat → Prop} {n : Nat} {own : List Own} {o : Oper} {E : F3}
theorem r4 {c : Code} {Q : Exit → E0 → Prop} {env : List (Nat × AV)} {v : Value} {e : TypeId} {sz : Nat} {es : List (List AV)} (i : Nat) (hi : own[i]? = some (.arr v e sz es)) (k1 : v = .slice none 0 0 → es = [] → AWP P G n c Q ⟨own, env⟩)
  (k2 : ∀ g cap, v = .slice (some ⟨g, 0, none⟩) es.length cap → es.length ≤ cap → cap ≤ 9223372036854775807 → AWP P G n c Q ⟨own, env⟩) : AWP P G n c Q ⟨own, env⟩ := fun w0 R0 R a w hs => by
 obtain ⟨_, _, xs, hown, _⟩ := hs.1.owned _ (D9 hi)
 rcases hown.2 with ⟨h1, h2⟩ | ⟨g, cap, cur, h1, _, _, hn, hm, _⟩
 ·exact k1 h1 (List.eq_nil_of_length_eq_zero h2) w0 R0 R a w hs
 exact k2 g cap h1 hn (by unfold maxLen at hm; omega) w0 R0 R a w hs
abbrev slv (g len cap : Nat) : Value := .slice (some ⟨g, 0, none⟩) len cap
section vals
variable {t e : TypeId} {p q q' q'' : Operand} {g len cap sz : Nat}
theorem u5 {oa : Option Addr} (ho : o.op = .call { callee := .builtin .len, args := #[p], argTypes := #[t] }) (ht : P.underlying t = some (.slice e)) (hp : Ev E p (AV.is (.slice oa len cap))) : OpW P G n own o E (AV.int len) := G0 fun R a w _ he => by
  have h1 : a.eval p = _ := D7 hp t7 he
  have hel : P.elem t = e := by simp [Program.elem, ht]
  have h2 := run_len_slice (P := P) w t o.type oa len cap Z1
  exact ⟨.int .i64 len, by simp only [execOp, ho, resolve, invoke, builtin, List.map_toArray, List.map_cons, List.map_nil, h1, h2, Sem.run_bind, Sem.run_pure, Result.andThen_ok, goInt], rfl⟩
theorem w_vcap {oa : Option Addr} (ho : o.op = .call { callee := .builtin .cap, args := #[p], argTypes := #[t] }) (ht : P.underlying t = some (.slice e)) (hp : Ev E p (AV.is (.slice oa len cap))) : OpW P G n own o E (AV.int cap) := G0 fun R a w _ he => by
  have h1 : a.eval p = _ := D7 hp t7 he
  have hel : P.elem t = e := by simp [Program.elem, ht]
  have h2 := run_cap_slice (P := P) w t o.type oa len cap Z1
  exact ⟨.int .i64 cap, by simp only [execOp, ho, resolve, invoke, builtin, List.map_toArray, List.map_cons, List.map_nil, h1, h2, Sem.run_bind, Sem.run_pure, Result.andThen_ok, goInt], rfl⟩
theorem AV1 (g hi cap sz : Nat) : sliced (some ⟨g, 0, none⟩) 0 hi cap sz = slv g hi cap := by
  unfold sliced
  by_cases hc : cap = 0
  · simp [hc]
  · simp [hc, Addr.add]
theorem AY9 {hi : Int} (ho : o.op = .slice t p none (some q) none) (ht : P.underlying t = some (.slice e)) (hsz : ∀ w, (sizeOf e).run P w = .ok sz w) (hp : Ev E p (AV.is (slv g len cap))) (hq : Ev E q (AV.int hi)) (h0 : 0 ≤ hi) (h1 : hi ≤ cap) : OpW P G n own o E (AV.is (slv g hi.toNat cap)) := G0 fun R a w _ he => by
  have e1 : a.eval p = _ := D7 hp qz9 he
  have e2 : a.eval q = .int .i64 hi := D7 hq qz9 he
  have hel : P.elem t = e := by simp [Program.elem, ht]
  have hr1 := run_slice_h (P := P) (w := w) (t := t) (a := some ⟨g, 0, none⟩) (len := len) (cap := cap) Z1 .i64 hi h0 h1
  rw [hel, hsz, Result.andThen_ok, AV1] at hr1
  exact ⟨_, by simp only [execOp, ho, e1, e2, Option.map_some, Option.map_none, run_sliceAt_slice w t _ _ _ _ Z1, hr1, Sem.run_bind, Sem.run_pure, Result.andThen_ok], rfl⟩
theorem a6 {lo : Int} (ho : o.op = .slice t p (some q) none none) (ht : P.underlying t = some (.slice e)) (hsz : ∀ w, (sizeOf e).run P w = .ok sz w) (hp : Ev E p (AV.is (slv g len cap))) (hq : Ev E q (AV.int lo)) (h0 : 0 ≤ lo) (h1 : lo ≤ len) : OpW P G n own o E (AV.is (sliced (some ⟨g, 0, none⟩) lo.toNat len cap sz)) := G0 fun R a w _ he => by
  have e1 : a.eval p = _ := D7 hp qz9 he
  have e2 : a.eval q = .int .i64 lo := D7 hq qz9 he
  have hel : P.elem t = e := by simp [Program.elem, ht]
  have hr1 := run_slice_l (P := P) (w := w) (t := t) (a := some ⟨g, 0, none⟩) (len := len) (cap := cap) Z1 .i64 lo h0 h1
  rw [hel, hsz, Result.andThen_ok] at hr1
  exact ⟨_, by simp only [execOp, ho, e1, e2, Option.map_some, Option.map_none, run_sliceAt_slice w t _ _ _ _ Z1, hr1, Sem.run_bind, Sem.run_pure, Result.andThen_ok], rfl⟩
theorem w_vlohi {lo hi : Int} (ho : o.op = .slice t p (some q) (some q') none) (ht : P.underlying t = some (.slice e)) (hsz : ∀ w, (sizeOf e).run P w = .ok sz w) (hp : Ev E p (AV.is (slv g len cap))) (hq : Ev E q (AV.int lo)) (hq' : Ev E q' (AV.int hi)) (h0 : 0 ≤ lo) (h1 : lo ≤ hi) (h2 : hi ≤ cap) : OpW P G n own o E (AV.is (sliced (some ⟨g, 0, none⟩) lo.toNat hi.toNat cap sz)) := G0 fun R a w _ he => by
  have e1 : a.eval p = _ := D7 hp qz9 he
  have e2 : a.eval q = .int .i64 lo := D7 hq qz9 he
  have e3 : a.eval q' = .int .i64 hi := D7 hq' qz9 he
  have hel : P.elem t = e := by simp [Program.elem, ht]
  have hr1 := run_slice_lh (P := P) (w := w) (t := t) (a := some ⟨g, 0, none⟩) (len := len) (cap := cap) Z1 .i64 .i64 lo hi h0 h1 h2
  rw [hel, hsz, Result.andThen_ok] at hr1
  exact ⟨_, by simp only [execOp, ho, e1, e2, e3, Option.map_some, Option.map_none, run_sliceAt_slice w t _ _ _ _ Z1, hr1, Sem.run_bind, Sem.run_pure, Result.andThen_ok], rfl⟩
theorem w_v3 {oa : Option Addr} {lo hi mx : Int} (ho : o.op = .slice t p (some q) (some q') (some q'')) (ht : P.underlying t = some (.slice e)) (hsz : ∀ w, (sizeOf e).run P w = .ok sz w) (hp : Ev E p (AV.is (.slice oa len cap))) (hq : Ev E q (AV.int lo)) (hq' : Ev E q' (AV.int hi)) (hq'' : Ev E q'' (AV.int mx)) (h0 : 0 ≤ lo) (h1 : lo ≤ hi) (h2 : hi ≤ mx) (h3 : mx ≤ cap) : OpW P G n own o E AV.any := G0 fun R a w _ he => by
  have e1 : a.eval p = _ := D7 hp qz9 he
  have e2 : a.eval q = .int .i64 lo := D7 hq qz9 he
  have e3 : a.eval q' = .int .i64 hi := D7 hq' qz9 he
  have e4 : a.eval q'' = .int .i64 mx := D7 hq'' qz9 he
  have hel : P.elem t = e := by simp [Program.elem, ht]
  have hb : (Instr.sliceBounds true len cap (some (.int .i64 lo)) (some (.int .i64 hi)) (some (.int .i64 mx))).run P w = .ok (lo.toNat, hi.toNat, mx.toNat) w := by
    have g1 : (hi.toNat : Int) = hi := Int.toNat_of_nonneg qz6
    have g2 : (mx.toNat : Int) = mx := Int.toNat_of_nonneg qz6
    simp [Instr.sliceBounds, run_sliceBound, *, (by omega : 0 ≤ hi), (by omega : 0 ≤ mx)]
  have hr1 := run_slice_any (P := P) (w := w) (t := t) (a := oa) (len := len) (cap := cap) Z1 (some (.int .i64 lo)) (some (.int .i64 hi)) (some (.int .i64 mx))
  rw [hb, Result.andThen_ok, hel, hsz, Result.andThen_ok] at hr1
  dsimp only at hr1
  exact ⟨sliced oa lo.toNat hi.toNat mx.toNat sz, by simp only [execOp, ho, e1, e2, e3, e4, Option.map_some, Option.map_none, run_sliceAt_slice w t _ _ _ _ Z1, hr1, Sem.run_bind, Sem.run_pure, Result.andThen_ok], trivial⟩
end vals
theorem AO5 (w : World) (dT sT ty elem : TypeId) {inf : TypeInfo} (g o dLen dCap : Nat) (a : Addr) (sLen sCap : Nat) (cur : Array Value) (t : TypeId) (cs : List Value)
    (hu : P.underlying dT = some (.slice elem)) (hi : P.info? elem = some inf)
    (hg : w.heap[g]? = some (.cells cur t (0, 0))) (hn : cs.length = Nat.min sLen dLen * inf.size)
    (hsrc : ∀ j v, cs[j]? = some v → w.cell? (a.add j) = some v) (hfit : o + cs.length ≤ cur.size) (h1 : ∀ v ∈ cs, v.oneCell' = true) :
    (Builtin.copy_ #[dT, sT] ty #[.slice (some ⟨g, o, none⟩) dLen dCap, .slice (some a) sLen sCap]).run P w =
      .ok (goInt (Nat.min sLen dLen)) (w.setRow g (cur.toList.take o ++ cs ++ cur.toList.drop (o + cs.length)).toArray) := by
  have hl := run_loadCells_list (P := P) w a cs hsrc
  have hst := run_storeCells_at P g o t cs 0 cur w hg (by simpa using hfit) h1
  simp [Builtin.copy_, run_underlying hu, Builtin.lenOf, Builtin.firstCells, sizeOf, typeInfo, hi, ← hn, hl, hst]
def Q8 (own : List Own) (E : F3) (q : Operand) (sz : Nat) (fs : List (List AV)) : Prop :=
  ∀ (G : Nat → Prop) (w0 : World) (R0 R : D6) (a : Act) (w : World), H7 G w0 R0 own R w → (∀ t, q = .tmp t → ∀ y, E t = some y → y.den R (a.tmps.getD t undef)) →
    (∀ f ∈ fs, f.length = sz) ∧ (fs ≠ [] → ∃ ad cap vs, a.eval q = .slice (some ad) fs.length cap ∧ (∀ j u, vs[j]? = some u → w.cell? (ad.add j) = some u) ∧ O8 R vs fs.flatten)
theorem l9 {R : D6} {w : World} {g len cap : Nat} {e : TypeId} {sz : Nat} {es : List (List AV)} (h : Own.ok R w (.arr (slv g len cap) e sz es)) : len = es.length ∧ len ≤ cap ∧ cap ≤ maxLen ∧ (∀ x ∈ es, x.length = sz) ∧ ∃ (cur : Array Value) (xs : List Value), w.heap[g]? = some (.cells cur e (0, 0)) ∧ cur.size = cap * sz ∧ cur.toList.take (len * sz) = xs ∧ xs.length = len * sz ∧ O8 R xs es.flatten := by
  obtain ⟨_, hu, xs, hown, hd⟩ := h
  rcases hown.2 with ⟨h1, _⟩ | ⟨g', cap', cur, h1, _, hg, hn, hm, hcs, htake⟩
  · cases h1
  · injection h1 with e1 e2 e3
    injection e1 with e1
    injection e1 with e1
    subst e1; subst e2; subst e3
    exact ⟨rfl, hn, hm, hu, cur, xs, hg, hcs, htake, hown.1, hd⟩
theorem Ac8 {q : Operand} {g len cap k : Nat} {e : TypeId} {sz : Nat} {es : List (List AV)} (i : Nat) (hi : own[i]? = some (.arr (slv g len cap) e sz es)) (hq : Ev E q (AV.is (sliced (some ⟨g, 0, none⟩) k len cap sz))) : Q8 own E q sz (es.drop k) := fun G w0 R0 R a w hc he => by
  have e1 : a.eval q = _ := hq R a he
  obtain ⟨hl, hlc, _, hu, cur, xs, hg, hcs, htake, hxl, hd⟩ := l9 (hc.owned _ (D9 hi))
  refine ⟨fun f hf => hu f (List.mem_of_mem_drop hf), fun hne => ?_⟩
  have hk : k < es.length := by
    rcases Nat.lt_or_ge k es.length with h | h
    · exact h
    · exact absurd (List.drop_eq_nil_of_le h) hne
  have hmul : k * sz ≤ len * sz := Nat.mul_le_mul_right sz qz6
  refine ⟨⟨g, k * sz, none⟩, cap - k, xs.drop (k * sz), ?_, fun j u hu' => ?_, ?_⟩
  · rw [e1]; unfold sliced
    rw [if_neg qz6, Option.map_some, W4, Nat.zero_add, List.length_drop, hl]
  · rw [List.getElem?_drop] at hu'
    have hjl : k * sz + j < len * sz := by rw [← hxl]; exact (List.getElem?_eq_some_iff.1 hu').1
    rw [W4]
    rw [← htake, List.getElem?_take_of_lt hjl, Array.getElem?_toList] at hu'
    simp [World.cell?, hg, hu']
  · rw [Y1 k hu]
    exact ⟨by simp [hd.1], fun j v x hv hx => hd.2 _ v x (by rw [List.getElem?_drop] at hv; exact hv) (by rw [List.getElem?_drop] at hx; exact hx)⟩
theorem j0 {q : Operand} {g len cap : Nat} {e : TypeId} {sz : Nat} {es : List (List AV)} (i : Nat) (hi : own[i]? = some (.arr (slv g len cap) e sz es)) (hq : Ev E q (AV.is (slv g len cap))) : Q8 own E q sz es := by
  have := Ac8 (k := 0) i hi (by rw [AV1]; exact hq)
  rwa [List.drop_zero] at this
theorem AJ5 {g k m cap sz : Nat} (h : k < m) (hc : m ≤ cap) : sliced (some ⟨g, 0, none⟩) k m cap sz = .slice (some ⟨g, k * sz, none⟩) (m - k) (cap - k) := by
  unfold sliced
  rw [if_neg qz6, Option.map_some, W4, Nat.zero_add]
theorem Ak3 {sz k : Nat} {es fs : List (List AV)} (hu : ∀ e ∈ es, e.length = sz) (hf : ∀ f ∈ fs, f.length = sz) : (es.take k ++ fs ++ es.drop (k + fs.length)).flatten = splice es.flatten (k * sz) fs.flatten := by
  rw [List.flatten_append, List.flatten_append, Y0 k hu, Y1 (k + fs.length) hu]
  unfold splice
  rw [O6 hf, Nat.add_mul]
theorem AE1 {ops : Array Oper} {rest : List Oper} {env : List (Nat × AV)} {K : E0 → Prop} {t e : TypeId} {p q : Operand} {d sz g len cap k m : Nat} {inf : TypeInfo} {es fs : List (List AV)} (i : Nat) (hg : o.guard = none) (ho : o.op = .call { callee := .builtin .copy, args := #[p, q], argTypes := #[t, t] }) (hd : o.dst = some d) (hn : Nat.blt d n = true)
    (ht : P.underlying t = some (.slice e)) (hinf : P.info? e = some inf) (hsz : inf.size = sz) (hp : Ev (getv · env) p (AV.is (sliced (some ⟨g, 0, none⟩) k m cap sz))) (hq : Q8 own (getv · env) q sz fs) (hi : own[i]? = some (.arr (slv g len cap) e sz es))
    (hk : k + fs.length ≤ len) (hm : k + fs.length ≤ m) (hmc : m ≤ cap) (hne : fs ≠ []) (c : H8 P G n ops rest ⟨own.set i (.arr (slv g len cap) e sz (es.take k ++ fs ++ es.drop (k + fs.length))), (d, AV.int fs.length) :: env⟩ K) : H8 P G n ops (o :: rest) ⟨own, env⟩ K :=
  S2 hg fun w0 R0 R a w ⟨h1, h2, h3, h4⟩ => by
    have e1 : a.eval p = _ := U7 (s := ⟨own, env⟩) (o := o) hp h2
    obtain ⟨hfu, hsrc⟩ := hq G w0 R0 R a w h1 (fun t _ y hy => h2 t y hy)
    obtain ⟨ad, sc, vs, e2, hcell, hden⟩ := hsrc hne
    have hpos : 0 < fs.length := List.length_pos_iff.2 hne
    have hok := h1.owned _ (D9 hi)
    obtain ⟨hl, hlc, hcm, hu, cur, xs, hgw, hcs, htake, hxl, hdc⟩ := l9 hok
    rw [AJ5 qz6 hmc] at e1
    have hvl : vs.length = fs.length * sz := by rw [hden.1, O6 hfu]
    have hmin : Nat.min fs.length (m - k) = fs.length := Nat.min_eq_left qz6
    have hone : ∀ u ∈ vs, u.oneCell' = true := fun u hmu => by
      obtain ⟨j, hj⟩ := List.getElem?_of_mem hmu
      have hjl : j < fs.flatten.length := by rw [← hden.1]; exact (List.getElem?_eq_some_iff.1 hj).1
      exact (hden.2 j u _ hj (List.getElem?_eq_getElem hjl)).2
    have hb1 : k * sz + fs.length * sz ≤ len * sz := by rw [← Nat.add_mul]; exact Nat.mul_le_mul_right sz hk
    have hb2 : len * sz ≤ cap * sz := Nat.mul_le_mul_right sz hlc
    have hr := AO5 (P := P) w t t o.type e g (k * sz) (m - k) (cap - k) ad fs.length sc cur e vs ht hinf hgw (by rw [hmin, hsz]; exact hvl) hcell (by rw [hvl, hcs]; omega) hone
    rw [hmin] at hr
    have hex : (execOp a.eval o).run P w = .ok (.value (.int .i64 fs.length)) (w.setRow g (cur.toList.take (k * sz) ++ vs ++ cur.toList.drop (k * sz + vs.length)).toArray) := by
      simp only [execOp, ho, resolve, invoke, builtin, Sem.run_bind, Sem.run_pure, Result.andThen_ok, List.map_toArray, List.map_cons, List.map_nil, e1, e2, hr, goInt]
    unfold Oper.wp
    rw [hex, Oper.upon_value, hd]
    have hel : (es.take k ++ fs ++ es.drop (k + fs.length)).length = len := by simp; omega
    refine ⟨_, R, c, E9.refl _, l7 h1 hi rfl rfl ⟨hok.1, fun z hz => ?_, xs.take (k * sz) ++ vs ++ xs.drop (k * sz + vs.length), ⟨?_, .inr ⟨g, cap, _, by rw [hel], Nat.zero_le _, setRow_heap w g _ _ e _ hgw, by rw [hel]; exact hlc, hcm, ?_, ?_⟩⟩, ?_⟩ (V1 w g _), U2 h2 (E9.refl _) q9 rfl, by rw [P5]; exact h3, by rw [M1]; exact h4⟩
    · rcases List.mem_append.1 hz with hz | hz
      · rcases List.mem_append.1 hz with hz | hz
        · exact hu z (List.mem_of_mem_take hz)
        · exact hfu z hz
      · exact hu z (List.mem_of_mem_drop hz)
    · rw [hel]; simp only [H6, G8, List.length_drop, hxl, hvl]; omega
    · simp only [List.size_toArray, H6, G8, List.length_drop, Array.length_toList, hvl, hcs]; omega
    · rw [hel, ← htake]
      exact AU8 (by rw [Array.length_toList, hcs]; exact hb2) (by rw [hvl]; exact hb1)
    · rw [Ak3 hu hfu]
      exact o8 hdc hden (by rw [O6 hu, O6 hfu, ← hl]; exact hb1)
theorem Ak4 {ops : Array Oper} {rest : List Oper} {env : List (Nat × AV)} {K : E0 → Prop} {t e : TypeId} {p q : Operand} {d sz g len cap k : Nat} {inf : TypeInfo} {es : List (List AV)} (i : Nat) (hg : o.guard = none) (ho : o.op = .call { callee := .builtin .copy, args := #[p, q], argTypes := #[t, t] }) (hd : o.dst = some d) (hn : Nat.blt d n = true)
    (ht : P.underlying t = some (.slice e)) (hinf : P.info? e = some inf) (hsz : inf.size = sz) (hp : Ev (getv · env) p (AV.is (sliced (some ⟨g, 0, none⟩) (k + 1) (len + 1) cap sz))) (hq : Ev (getv · env) q (AV.is (sliced (some ⟨g, 0, none⟩) k (len + 1) cap sz))) (hi : own[i]? = some (.arr (slv g len cap) e sz es))
    (hk : k < len) (hc : len + 1 ≤ cap) (c : ∀ j, H8 P G n ops rest ⟨own.set i (.arr (slv g (len + 1) cap) e sz (es.take (k + 1) ++ es.drop k)), (d, AV.int j) :: env⟩ K) : H8 P G n ops (o :: rest) ⟨own, env⟩ K :=
  S2 hg fun w0 R0 R a w ⟨h1, h2, h3, h4⟩ => by
    have e1 : a.eval p = _ := U7 (s := ⟨own, env⟩) (o := o) hp h2
    have e2 : a.eval q = _ := U7 (s := ⟨own, env⟩) (o := o) hq h2
    have hok := h1.owned _ (D9 hi)
    obtain ⟨hl, hlc, hcm, hu, cur, xs, hgw, hcs, htake, hxl, hdc⟩ := l9 hok
    rw [AJ5 qz6 hc] at e1 e2
    have hmin : Nat.min (len + 1 - k) (len + 1 - (k + 1)) = len - k := by
      show min (len + 1 - k) (len + 1 - (k + 1)) = len - k
      omega
    have hb0 : k * sz ≤ len * sz := Nat.mul_le_mul_right sz qz6
    have hb1 : (k + 1) * sz + (len - k) * sz = (len + 1) * sz := by rw [← Nat.add_mul]; congr 1; omega
    have hb2 : (len + 1) * sz ≤ cap * sz := Nat.mul_le_mul_right sz hc
    have hb3 : (k + 1) * sz ≤ len * sz := Nat.mul_le_mul_right sz qz6
    have hb4 : len * sz ≤ cap * sz := Nat.mul_le_mul_right sz hlc
    have hvl : (xs.drop (k * sz)).length = (len - k) * sz := by rw [List.length_drop, hxl, Nat.sub_mul]
    have hone : ∀ u ∈ xs.drop (k * sz), u.oneCell' = true := fun u hmu => by
      obtain ⟨j, hj⟩ := List.getElem?_of_mem (List.mem_of_mem_drop hmu)
      have hjl : j < es.flatten.length := by rw [← hdc.1]; exact (List.getElem?_eq_some_iff.1 hj).1
      exact (hdc.2 j u _ hj (List.getElem?_eq_getElem hjl)).2
    have hcell : ∀ j u, (xs.drop (k * sz))[j]? = some u → w.cell? ((⟨g, k * sz, none⟩ : Addr).add j) = some u := fun j u hu' => by
      rw [List.getElem?_drop] at hu'
      have hjl : k * sz + j < len * sz := by rw [← hxl]; exact (List.getElem?_eq_some_iff.1 hu').1
      rw [W4]
      rw [← htake, List.getElem?_take_of_lt hjl, Array.getElem?_toList] at hu'
      simp [World.cell?, hgw, hu']
    have hr := AO5 (P := P) w t t o.type e g ((k + 1) * sz) (len + 1 - (k + 1)) (cap - (k + 1)) ⟨g, k * sz, none⟩ (len + 1 - k) (cap - k) cur e (xs.drop (k * sz)) ht hinf hgw (by rw [hmin, hsz]; exact hvl) hcell (by rw [hvl, hcs]; omega) hone
    rw [hmin] at hr
    have hex : (execOp a.eval o).run P w = .ok (.value (.int .i64 ((len - k : Nat) : Int))) (w.setRow g (cur.toList.take ((k + 1) * sz) ++ xs.drop (k * sz) ++ cur.toList.drop ((k + 1) * sz + (xs.drop (k * sz)).length)).toArray) := by
      simp only [execOp, ho, resolve, invoke, builtin, Sem.run_bind, Sem.run_pure, Result.andThen_ok, List.map_toArray, List.map_cons, List.map_nil, e1, e2, hr, goInt]
    unfold Oper.wp
    rw [hex, Oper.upon_value, hd]
    have hel : (es.take (k + 1) ++ es.drop k).length = len + 1 := by simp; omega
    refine ⟨_, R, c _, E9.refl _, l7 h1 hi rfl rfl ⟨hok.1, fun z hz => ?_, xs.take ((k + 1) * sz) ++ xs.drop (k * sz), ⟨?_, .inr ⟨g, cap, _, by rw [hel], Nat.zero_le _, setRow_heap w g _ _ e _ hgw, by rw [hel]; exact hc, hcm, ?_, ?_⟩⟩, ?_⟩ (V1 w g _), U2 h2 (E9.refl _) q9 rfl, by rw [P5]; exact h3, by rw [M1]; exact h4⟩
    · rcases List.mem_append.1 hz with hz | hz
      · exact hu z (List.mem_of_mem_take hz)
      · exact hu z (List.mem_of_mem_drop hz)
    · rw [hel, H6, hvl, G8, hxl]; omega
    · simp only [List.size_toArray, H6, G8, List.length_drop, Array.length_toList, hcs, hxl]
      have : len * sz - k * sz = (len - k) * sz := (Nat.sub_mul _ _ _).symm
      omega
    · rw [hel]
      show List.take ((len + 1) * sz) (cur.toList.take ((k + 1) * sz) ++ xs.drop (k * sz) ++ cur.toList.drop ((k + 1) * sz + (xs.drop (k * sz)).length)) = _
      have hl2 : (cur.toList.take ((k + 1) * sz) ++ xs.drop (k * sz)).length = (len + 1) * sz := by rw [H6, hvl, G8, Array.length_toList, hcs]; omega
      rw [← hl2, List.take_left', ← htake, List.take_take, Nat.min_eq_left hb3]
      rfl
    · rw [List.flatten_append, Y0 (k + 1) hu, Y1 k hu]
      refine Y3 ⟨by simp [hdc.1], fun j u x hu' hx => ?_⟩ ⟨by simp [hdc.1], fun j u x hu' hx => ?_⟩
      · by_cases hj : j < (k + 1) * sz
        · rw [List.getElem?_take_of_lt hj] at hu' hx; exact hdc.2 j u x hu' hx
        · rw [List.getElem?_eq_none k5] at hu'; cases hu'
      · rw [List.getElem?_drop] at hu' hx; exact hdc.2 _ u x hu' hx
theorem zero_den {R : D6} {z : Value} {sz : Nat} (hzs : z.cells.size = sz) (h1z : z.cells.toList.all Value.oneCell' = true) (hpos : 0 < sz) (m : Nat) : O8 R (Builtin.zeroCells z.cells m).toList (List.replicate m (z.cells.toList.map zeroA)).flatten := by
  have hlz := AK3 z sz hzs m
  have hu : ∀ e ∈ List.replicate m (z.cells.toList.map zeroA), e.length = sz := fun e he => by rw [(List.mem_replicate.1 he).2]; simp [hzs]
  refine ⟨by rw [hlz.1, O6 hu]; simp, fun j u x hu' hx => ?_⟩
  have hjl : j < m * sz := by rw [← hlz.1]; exact (List.getElem?_eq_some_iff.1 hu').1
  have hjm : j % sz < sz := Nat.mod_lt _ hpos
  have hjd : j / sz < m := Nat.div_lt_of_lt_mul (by rw [Nat.mul_comm]; exact hjl)
  have hjj : j / sz * sz + j % sz = j := by rw [Nat.mul_comm]; exact Nat.div_add_mod j sz
  have hzj : z.cells.toList[j % sz]? = some (z.cells.toList[j % sz]'qz68) := List.getElem?_eq_getElem _
  have hx2 := U6 hu (i := j / sz) (e := z.cells.toList.map zeroA) (by rw [List.getElem?_replicate, if_pos hjd]) (k := j % sz) (x := zeroA (z.cells.toList[j % sz]'qz68)) (by rw [List.getElem?_map, hzj]; rfl)
  rw [hjj, hx] at hx2
  injection hx2 with hx2
  have hu2 : u = z.cells.toList[j % sz]'qz68 := by
    rw [hlz.2 j u hu', getElem!_pos z.cells _ (by rw [hzs]; exact hjm)]; simp
  rw [hx2, hu2]
  exact ⟨l6 R _, List.all_eq_true.1 h1z _ M8⟩
theorem AZ0 {ops : Array Oper} {rest : List Oper} {env : List (Nat × AV)} {K : E0 → Prop} {t tn e : TypeId} {p q : Operand} {kn : IntKind} {d sz by' g len cap j m : Nat} {inf : TypeInfo} {z : Value} {es : List (List AV)} (i : Nat) (hg : o.guard = none) (ho : o.op = .call { callee := .builtin .append, args := #[p, q], argTypes := #[t, tn] }) (hd : o.dst = some d) (hn : Nat.blt d n = true)
    (ht : P.underlying t = some (.slice e)) (htn : P.underlying tn = some (.int kn)) (hinf : P.info? e = some inf) (hz : inf.zero = some z) (hsz : inf.size = sz) (hby : inf.bytes = by') (hzs : z.cells.size = sz) (hpos' : Nat.ble 1 sz = true) (h1z : z.cells.toList.all Value.oneCell' = true) (hp : Ev (getv · env) p (AV.is (slv g j cap))) (hq : Ev (getv · env) q (AV.int m)) (hi : own[i]? = some (.arr (slv g len cap) e sz es))
    (hj : j ≤ len) (hm : 0 < m) (hc : cap < j + m) (hlen : (j + m) * by' ≤ 140737488355328) (hlen2 : j + m ≤ 9223372036854775807) (k : ∀ g' cap', j + m ≤ cap' → H8 P G n ops rest ⟨.arr (slv g' (j + m) cap') e sz (es.take j ++ List.replicate m (z.cells.toList.map zeroA)) :: own, (d, AV.is (slv g' (j + m) cap')) :: env⟩ K) : H8 P G n ops (o :: rest) ⟨own, env⟩ K :=
  S2 hg fun w0 R0 R a w ⟨h1, h2, h3, h4⟩ => by
    have hpos := Nat.le_of_ble_eq_true hpos'
    have e1 : a.eval p = _ := U7 (s := ⟨own, env⟩) (o := o) hp h2
    have e2 : a.eval q = .int .i64 m := U7 (s := ⟨own, env⟩) (o := o) hq h2
    obtain ⟨hl, hlc, hcm, hu, cur, xs, hgw, hcs, htake, hxl, hdc⟩ := l9 (h1.owned _ (D9 hi))
    have hb1 : j * sz ≤ len * sz := Nat.mul_le_mul_right sz hj
    have hb2 : len * sz ≤ cap * sz := Nat.mul_le_mul_right sz hlc
    have hold : (Builtin.firstCells inf.size j (slv g j cap)).run P w.drew = .ok (xs.take (j * sz)).toArray w.drew := by
      have := run_loadCells_list (P := P) w.drew ⟨g, 0, none⟩ (xs.take (j * sz)) (fun i u hu' => by
        have hil : i < j * sz := by have := (List.getElem?_eq_some_iff.1 hu').1; rw [G8] at this; omega
        rw [List.getElem?_take_of_lt hil, ← htake, List.getElem?_take_of_lt qz6, Array.getElem?_toList] at hu'
        rw [W4, Nat.zero_add]
        show w.cell? _ = _
        simp [World.cell?, hgw, hu'])
      rw [G8, hxl, Nat.min_eq_left hb1] at this
      simpa [Builtin.firstCells, hsz] using this
    have hr := Lib.run_append_grow_zeros (P := P) w t tn o.type e inf z .i64 kn ht htn hinf hz (some ⟨g, 0, none⟩) j cap _ hold m hm qz6 hc qz6 (by
      have : m * by' ≤ (j + m) * by' := Nat.mul_le_mul_right _ qz6
      rw [hby]; omega) (by rw [hby]; exact growslice_fits hc hlen)
    have hex : (execOp a.eval o).run P w = .ok (.value (slv w.heap.size (j + m) (grownCap w (j + m) cap e))) (w.drew.alloc (.cells ((xs.take (j * sz)).toArray ++ Builtin.zeroCells z.cells m ++ Builtin.zeroCells z.cells (grownCap w (j + m) cap e - (j + m))) e)) := by
      simp only [execOp, ho, resolve, invoke, builtin, Sem.run_bind, Sem.run_pure, Result.andThen_ok, List.map_toArray, List.map_cons, List.map_nil, e1, e2, hr]
    unfold Oper.wp
    rw [hex, Oper.upon_value, hd]
    have hge := grownCap_ge w (j + m) cap e
    have hcm2 : grownCap w (j + m) cap e ≤ maxLen := grownCap_le_maxLen w (j + m) cap e Ab5
    have hl1 : (xs.take (j * sz)).length = j * sz := by rw [G8, hxl]; omega
    refine ⟨_, R, k _ _ hge, E9.refl _, l8 (sz := sz) (m := j + m) (cap := grownCap w (j + m) cap e) (l5 h1) k5 hge hcm2 ?_ (fun x hx => ?_) ?_, U2 h2 (E9.refl _) q9 rfl, by rw [P5]; exact h3, by rw [M1]; exact h4⟩
    · simp only [Array.size_append, List.size_toArray, size_zeroCells, hl1, hzs, ← Nat.add_mul]
      congr 1; omega
    · rcases List.mem_append.1 hx with hx | hx
      · exact hu x (List.mem_of_mem_take hx)
      · rw [(List.mem_replicate.1 hx).2]; simp [hzs]
    · have hsz3 : ((xs.take (j * sz)).toArray ++ Builtin.zeroCells z.cells m).toList.length = (j + m) * sz := by simp only [Array.length_toList, Array.size_append, List.size_toArray, size_zeroCells, hl1, hzs, Nat.add_mul]
      rw [Array.toList_append, List.take_left' hsz3, Array.toList_append, List.flatten_append]
      refine Y3 ?_ (zero_den hzs h1z qz6 m)
      rw [Y0 j hu]
      exact ⟨by simp [hdc.1], fun i u x hu' hx => by
        by_cases hij : i < j * sz
        · simp only [List.getElem?_take_of_lt hij] at hu' hx; exact hdc.2 i u x hu' hx
        · rw [List.getElem?_eq_none k5] at hu'; cases hu'⟩
theorem AV2 {f : FuncId} {fn : Func} {t e tb : TypeId} {p q : Operand} {tys : Array TypeId} {gv cv g len cap k m sz : Nat} {lv : Nat} {es vs : List (List AV)} (iv i : Nat) (ho : o.op = .call { callee := .value (.func f), args := #[p, q], argTypes := tys }) (hf : P.funcs[f]? = some fn) (hname : (fn.name == "runtime.NumGoroutine") = false) (hb : fn.body.isNone = true) (hnx : Extern.findNext fn = none) (he : Extern.find fn = some (Extern.SlicesOverlaps.overlaps #[t, t] #[tb]))
    (ht : P.underlying t = some (.slice e)) (hsz : ∀ w, (sizeOf e).run P w = .ok sz w) (hp : Ev E p (AV.is (slv gv lv cv))) (hq : Ev E q (AV.is (sliced (some ⟨g, 0, none⟩) k m cap sz))) (hiv : own[iv]? = some (.arr (slv gv lv cv) e sz vs)) (hi : own[i]? = some (.arr (slv g len cap) e sz es)) (hne : Nat.beq iv i = false) (hcap : 0 < cap) (hpos : Nat.ble 1 sz = true) :
    OpW P G n own o E (AV.bool false) := X9 fun w0 R0 R a w hcr hen => by
  have e1 : a.eval p = _ := D7 hp t7 hen
  have e2 : a.eval q = _ := D7 hq t7 hen
  have hb1 := Nat.le_of_ble_eq_true hpos
  have hij : iv ≠ i := fun h => by rw [h, Nat.beq_refl] at hne; cases hne
  obtain ⟨_, _, _, _, curv, xsv, hgv, hcv, _⟩ := l9 (hcr.owned _ (D9 hiv))
  obtain ⟨_, _, _, _, cur, xs, hg, hcs, _⟩ := l9 (hcr.owned _ (D9 hi))
  have hgne : gv ≠ g := fun h => AS6 hcr.sep hiv hi hij (b := gv) rfl (by rw [h]; rfl)
  obtain ⟨ad, lb, cb, hsl, hadb⟩ : ∃ ad lb cb, sliced (some ⟨g, 0, none⟩) k m cap sz = .slice (some ad) lb cb ∧ ad.block = g := by
    unfold sliced
    by_cases h : cap = k
    · exact ⟨_, _, _, by rw [if_pos h], rfl⟩
    · exact ⟨_, _, _, by rw [if_neg h, Option.map_some], by rw [W4]⟩
  rw [hsl] at e2
  have hkB : cap * sz ≠ 0 := Nat.mul_ne_zero qz6 qz6
  have h3 := Lib.run_overlaps_apart (P := P) w t tb e ht sz hsz ⟨gv, 0, none⟩ ad lv cv lb cb (by rw [hadb]; exact hgne) e e curv.size cur.size (by simp [World.shape?, hgv]) (by simp [World.shape?, hadb, hg]) (by rw [hcs]; exact hkB) (by simp [World.frozen?, hgv]) (by simp [World.frozen?, hgv])
  have h4 := run_callFunc_extern (P := P) hf hname hb hnx he #[slv gv lv cv, .slice (some ad) lb cb] w
  rw [h3, Result.andThen_ok] at h4
  refine ⟨.bool false, ?_, rfl⟩
  simp only [execOp, ho, resolve, List.map_toArray, List.map_cons, List.map_nil, e1, e2, show a.eval (.func f) = .func (.func f) #[] #[] from rfl]
  simp [Deferred.ofValue, invoke, h4]
theorem Az0 {ops : Array Oper} {rest : List Oper} {env : List (Nat × AV)} {K : E0 → Prop} {t e : TypeId} {p q : Operand} {d sz g len cap k j : Nat} {inf : TypeInfo} {es : List (List AV)} (i : Nat) (hg : o.guard = none) (ho : o.op = .call { callee := .builtin .append, args := #[p, q], argTypes := #[t, t] }) (hd : o.dst = some d) (hn : Nat.blt d n = true)
    (ht : P.underlying t = some (.slice e)) (hinf : P.info? e = some inf) (hsz : inf.size = sz) (hp : Ev (getv · env) p (AV.is (slv g k cap))) (hq : Ev (getv · env) q (AV.is (sliced (some ⟨g, 0, none⟩) j len cap sz))) (hi : own[i]? = some (.arr (slv g len cap) e sz es)) (hk : k ≤ j) (hj : j ≤ len)
    (c : H8 P G n ops rest ⟨own.set i (.arr (slv g (k + (len - j)) cap) e sz (es.take k ++ es.drop j)), (d, AV.is (slv g (k + (len - j)) cap)) :: env⟩ K) : H8 P G n ops (o :: rest) ⟨own, env⟩ K :=
  S2 hg fun w0 R0 R a w ⟨h1, h2, h3, h4⟩ => by
    have e1 : a.eval p = _ := U7 (s := ⟨own, env⟩) (o := o) hp h2
    have e2 : a.eval q = _ := U7 (s := ⟨own, env⟩) (o := o) hq h2
    have hok := h1.owned _ (D9 hi)
    obtain ⟨hl, hlc, hcm, hu, cur, xs, hgw, hcs, htake, hxl, hdc⟩ := l9 hok
    obtain ⟨ad, cb, hsl, hadb⟩ : ∃ ad cb, sliced (some ⟨g, 0, none⟩) j len cap sz = .slice (some ad) (len - j) cb ∧ (j < len → ad = ⟨g, j * sz, none⟩) := by
      unfold sliced
      by_cases h : cap = j
      · exact ⟨_, _, by rw [if_pos h], fun h' => by omega⟩
      · exact ⟨_, _, by rw [if_neg h, Option.map_some], fun _ => by rw [W4, Nat.zero_add]⟩
    rw [hsl] at e2
    have hb0 : k * sz ≤ j * sz := Nat.mul_le_mul_right sz hk
    have hb1 : j * sz ≤ len * sz := Nat.mul_le_mul_right sz hj
    have hb4 : len * sz ≤ cap * sz := Nat.mul_le_mul_right sz hlc
    have hvl : (xs.drop (j * sz)).length = (len - j) * sz := by rw [List.length_drop, hxl, Nat.sub_mul]
    have hsum : (len - j) * sz = len * sz - j * sz := Nat.sub_mul _ _ _
    have hone : ∀ u ∈ xs.drop (j * sz), u.oneCell' = true := fun u hmu => by
      obtain ⟨i', hj'⟩ := List.getElem?_of_mem (List.mem_of_mem_drop hmu)
      have hjl : i' < es.flatten.length := by rw [← hdc.1]; exact (List.getElem?_eq_some_iff.1 hj').1
      exact (hdc.2 i' u _ hj' (List.getElem?_eq_getElem hjl)).2
    have hcell : ∀ i' u, (xs.drop (j * sz))[i']? = some u → w.cell? (ad.add i') = some u := fun i' u hu' => by
      rw [List.getElem?_drop] at hu'
      have hjl : j * sz + i' < len * sz := by rw [← hxl]; exact (List.getElem?_eq_some_iff.1 hu').1
      have hjlt : j < len := by
        rcases Nat.lt_or_ge j len with h | h
        · exact h
        · have := Nat.mul_le_mul_right sz h; omega
      rw [hadb hjlt, W4]
      rw [← htake, List.getElem?_take_of_lt hjl, Array.getElem?_toList] at hu'
      simp [World.cell?, hgw, hu']
    have hr := run_append_room (P := P) w t o.type e inf ht hinf g k cap cur hgw ad (len - j) cb (xs.drop (j * sz)) (by rw [hvl, hsz]) hcell hone qz6 (by rw [hvl, hcs, hsz]; omega)
    rw [hsz] at hr
    have hex : (execOp a.eval o).run P w = .ok (.value (slv g (k + (len - j)) cap)) (w.setRow g (cur.toList.take (k * sz) ++ xs.drop (j * sz) ++ cur.toList.drop (k * sz + (xs.drop (j * sz)).length)).toArray) := by
      simp only [execOp, ho, resolve, invoke, builtin, Sem.run_bind, Sem.run_pure, Result.andThen_ok, List.map_toArray, List.map_cons, List.map_nil, e1, e2, hr]
    unfold Oper.wp
    rw [hex, Oper.upon_value, hd]
    have hel : (es.take k ++ es.drop j).length = k + (len - j) := by simp; omega
    have hmul : (k + (len - j)) * sz = k * sz + (len - j) * sz := Nat.add_mul _ _ _
    refine ⟨_, R, c, E9.refl _, l7 h1 hi rfl rfl ⟨hok.1, fun z hz => ?_, xs.take (k * sz) ++ xs.drop (j * sz), ⟨?_, .inr ⟨g, cap, _, by rw [hel], Nat.zero_le _, setRow_heap w g _ _ e _ hgw, by rw [hel]; omega, hcm, ?_, ?_⟩⟩, ?_⟩ (V1 w g _), U2 h2 (E9.refl _) q9 rfl, by rw [P5]; exact h3, by rw [M1]; exact h4⟩
    · rcases List.mem_append.1 hz with hz | hz
      · exact hu z (List.mem_of_mem_take hz)
      · exact hu z (List.mem_of_mem_drop hz)
    · rw [hel, H6, hvl, G8, hxl, hmul]; omega
    · simp only [List.size_toArray, H6, G8, List.length_drop, Array.length_toList, hcs, hxl]; omega
    · rw [hel]
      show List.take ((k + (len - j)) * sz) (cur.toList.take (k * sz) ++ xs.drop (j * sz) ++ cur.toList.drop (k * sz + (xs.drop (j * sz)).length)) = _
      have hl2 : (cur.toList.take (k * sz) ++ xs.drop (j * sz)).length = (k + (len - j)) * sz := by rw [H6, hvl, G8, Array.length_toList, hcs, hmul]; omega
      rw [← hl2, List.take_left', ← htake, List.take_take, Nat.min_eq_left qz6]
      rfl
    · rw [List.flatten_append, Y0 k hu, Y1 j hu]
      refine Y3 ⟨by simp [hdc.1], fun i' u x hu' hx => ?_⟩ ⟨by simp [hdc.1], fun i' u x hu' hx => ?_⟩
      · by_cases hj' : i' < k * sz
        · rw [List.getElem?_take_of_lt hj'] at hu' hx; exact hdc.2 i' u x hu' hx
        · rw [List.getElem?_eq_none k5] at hu'; cases hu'
      · rw [List.getElem?_drop] at hu' hx; exact hdc.2 _ u x hu' hx
theorem Az1 {ops : Array Oper} {rs : List Oper} {env : List (Nat × AV)} {K : E0 → Prop} {t e : TypeId} {p : Operand} {z : Value} {sz g len cap lo hi : Nat} {es : List (List AV)} (i : Nat) (hg : o.guard = none) (ho : o.op = .call { callee := .builtin .clear, args := #[p], argTypes := #[t] }) (hd : o.dst = none)
    (ht : P.underlying t = some (.slice e)) (hz : ∀ w, (zeroValue e).run P w = .ok z w) (hzs : z.cells.size = sz) (h1z : z.cells.toList.all Value.oneCell' = true) (hpos : Nat.ble 1 sz = true) (hp : Ev (getv · env) p (AV.is (sliced (some ⟨g, 0, none⟩) lo hi cap sz))) (hi' : own[i]? = some (.arr (slv g len cap) e sz es)) (h1 : len ≤ lo) (h2 : lo ≤ hi) (h3 : hi ≤ cap)
    (c : H8 P G n ops rs ⟨own, env⟩ K) : H8 P G n ops (o :: rs) ⟨own, env⟩ K :=
  S2 hg fun w0 R0 R a w ⟨h1', h2', h3', h4'⟩ => by
    have e1 : a.eval p = _ := U7 (s := ⟨own, env⟩) (o := o) hp h2'
    have hok := h1'.owned _ (D9 hi')
    obtain ⟨hl, hlc, hcm, hu, cur, xs, hgw, hcs, htake, hxl, hdc⟩ := l9 hok
    have hb1 := Nat.le_of_ble_eq_true hpos
    by_cases hlh : lo = hi
    · have hex : (execOp a.eval o).run P w = .ok (.value (.tuple #[])) w := by
        subst hlh
        simp only [execOp, ho, resolve, invoke, builtin, List.map_toArray, List.map_cons, List.map_nil, e1, sliced, Nat.sub_self, Sem.run_bind, Sem.run_pure, Result.andThen_ok]
        by_cases hc : cap = lo <;> simp [Builtin.clear_, run_underlying ht, hc]
      unfold Oper.wp
      rw [hex, Oper.upon_value, hd]
      exact ⟨_, R, c, E9.refl _, h1', h2', h3', h4'⟩
    · obtain ⟨m, hm⟩ : ∃ m, hi - lo = m + 1 := ⟨hi - lo - 1, by omega⟩
      rw [AJ5 qz6 h3, hm] at e1
      have hlz := AK3 z sz hzs (m + 1)
      have hone : ∀ u ∈ (Builtin.zeroCells z.cells (m + 1)).toList, u.oneCell' = true := fun u hu => by
        obtain ⟨j, hj⟩ := List.getElem?_of_mem hu
        rw [hlz.2 j u hj, getElem!_pos z.cells _ (by rw [hzs]; exact Nat.mod_lt _ qz6)]
        exact List.all_eq_true.1 h1z _ M8
      have hmul : lo * sz + (m + 1) * sz = hi * sz := by rw [← Nat.add_mul]; congr 1; omega
      have hmc : hi * sz ≤ cap * sz := Nat.mul_le_mul_right sz h3
      have hml : len * sz ≤ lo * sz := Nat.mul_le_mul_right sz h1
      have hst := run_storeCells_at (P := P) g (lo * sz) e (Builtin.zeroCells z.cells (m + 1)).toList 0 cur w hgw (by rw [hlz.1, hcs]; omega) hone
      simp only [Nat.add_zero, hlz.1] at hst
      have hex : (execOp a.eval o).run P w = .ok (.value (.tuple #[])) (w.setRow g (cur.toList.take (lo * sz) ++ (Builtin.zeroCells z.cells (m + 1)).toList ++ cur.toList.drop (lo * sz + (m + 1) * sz)).toArray) := by
        simp only [execOp, ho, resolve, invoke, builtin, List.map_toArray, List.map_cons, List.map_nil, e1, Sem.run_bind, Sem.run_pure, Result.andThen_ok]
        simp [Builtin.clear_, run_underlying ht, hz, hst]
      unfold Oper.wp
      rw [hex, Oper.upon_value, hd]
      have hset : own.set i (.arr (slv g len cap) e sz es) = own := by
        obtain ⟨hlt, heq⟩ := List.getElem?_eq_some_iff.1 hi'
        rw [← heq]; exact List.set_getElem_self hlt
      obtain ⟨cur', hcur'⟩ : ∃ cur' : Array Value, cur' = (cur.toList.take (lo * sz) ++ (Builtin.zeroCells z.cells (m + 1)).toList ++ cur.toList.drop (lo * sz + (m + 1) * sz)).toArray := ⟨_, rfl⟩
      have hs1 : cur'.size = cap * sz := by
        rw [hcur']; simp only [List.size_toArray, H6, G8, List.length_drop, hlz.1, Array.length_toList, hcs]; omega
      have hs2 : cur'.toList.take (len * sz) = xs := by
        rw [hcur', ← htake]
        show List.take (len * sz) (cur.toList.take (lo * sz) ++ (Builtin.zeroCells z.cells (m + 1)).toList ++ cur.toList.drop (lo * sz + (m + 1) * sz)) = _
        rw [List.append_assoc, List.take_append_of_le_length (by rw [G8, Array.length_toList, hcs]; omega), List.take_take, Nat.min_eq_left hml]
      rw [← hcur']
      have hcore := l7 (y := .arr (slv g len cap) e sz es) h1' hi' rfl rfl ⟨hok.1, hu, xs, ⟨by rw [hxl, hl], .inr ⟨g, cap, cur', by rw [hl], Nat.zero_le _, setRow_heap w g _ _ e _ hgw, by rw [← hl]; exact hlc, hcm, hs1, by rw [← hl]; exact hs2⟩⟩, hdc⟩ (V1 w g cur')
      rw [hset] at hcore
      exact ⟨_, R, c, E9.refl _, hcore, h2', h3', h4'⟩
end
section
variable {P : Program} {G : Nat → Prop} {n : Nat} {own : List Own} {o : Oper} {E : F3}
theorem I9 {ops : Array Oper} {t e : TypeId} {p q : Operand} {sz by' : Nat} {inf : TypeInfo} {z : Value} {v : Value} {es fs : List (List AV)} (i : Nat) (ho : o.op = .call { callee := .builtin .append, args := #[p, q], argTypes := #[t, t] }) (ht : P.underlying t = some (.slice e)) (hinf : P.info? e = some inf) (hz : inf.zero = some z) (hsz : inf.size = sz) (hby : inf.bytes = by') (hzs : z.cells.size = sz) (hpos : Nat.ble 1 sz = true) (hpos2 : Nat.ble 1 by' = true) (hp : Ev E p (AV.is v)) (hq : Ev E q (AV.list sz fs)) (hi : own[i]? = some (.arr v e sz es))
    (hlen : (es.length + fs.length) * by' ≤ 140737488355328) : OpE P G n own ops o E (fun _ : Value => True) (fun v' => own.set i (.arr v' e sz (es ++ fs))) (fun v' => AV.is v') :=
  fun w0 R0 R a w h1 h3 h2 => by
    have e1 : a.eval p = v := AF0 (ops := ops) hp t7 h2
    obtain ⟨oa, c, e2, hc1, hc2, hu, hcell⟩ := AF0 (ops := ops) hq t7 h2
    obtain ⟨hR, hue, xs, hown, hdc⟩ := h1.owned _ (D9 hi)
    have hb1 := Nat.le_of_ble_eq_true hpos
    have hb2 := Nat.le_of_ble_eq_true hpos2
    have hsum : es.length + fs.length ≤ 140737488355328 := Nat.le_trans (Nat.le_mul_of_pos_right _ hb2) hlen
    have hufs : ∀ x ∈ es ++ fs, x.length = sz := fun x hx => by
      rcases List.mem_append.1 hx with h | h
      · exact hue x h
      · exact hu x h
    by_cases hfs : fs = []
    · subst hfs
      have hrun : ∃ v', (Builtin.append_ #[t, t] o.type #[v, a.eval q]).run P w = .ok v' w ∧ v' = v := by
        refine ⟨v, ?_, rfl⟩
        rw [e2]
        rcases hown.2 with ⟨rfl, hz0⟩ | ⟨g, cap, cur, rfl, _, _, hnc, _⟩
        · cases oa with
          | none => simp [Builtin.append_, run_underlying ht, sizeOf, typeInfo, hinf, Builtin.lenOf, Builtin.firstCells, hz0]
          | some ad => simp [Builtin.append_, run_underlying ht, sizeOf, typeInfo, hinf, Builtin.lenOf, Builtin.firstCells, loadCells, loadCellsFrom, hz0]
        · cases oa with
          | none => simp [Builtin.append_, run_underlying ht, sizeOf, typeInfo, hinf, Builtin.lenOf, Builtin.firstCells, hnc, storeCells]
          | some ad => simp [Builtin.append_, run_underlying ht, sizeOf, typeInfo, hinf, Builtin.lenOf, Builtin.firstCells, loadCells, loadCellsFrom, hnc, storeCells]
      obtain ⟨v', hr, rfl⟩ := hrun
      have hex : (execOp a.eval o).run P w = .ok (.value v') w := by
        simp only [execOp, ho, resolve, invoke, builtin, Sem.run_bind, Sem.run_pure, Result.andThen_ok, List.map_toArray, List.map_cons, List.map_nil, e1, hr]
      unfold Oper.wp
      rw [hex, Oper.upon_value]
      have hset : own.set i (.arr v' e sz (es ++ [])) = own := by
        rw [List.append_nil]
        obtain ⟨hlt, he⟩ := List.getElem?_eq_some_iff.1 hi
        rw [← he]; exact List.set_getElem_self hlt
      exact ⟨v', v', R, trivial, rfl, by show H7 G w0 R0 (own.set i (.arr v' e sz (es ++ []))) R w; rw [hset]; exact h1, E9.refl _, rfl⟩
    · obtain ⟨ad, rfl, hca⟩ := hcell hfs
      obtain ⟨ns, hn1, hn2, hn3⟩ := AY6 (sz := sz) h1.rle hca
      have hnl : ns.length = fs.length * sz := by rw [hn1, O6 hu]
      have hone : ∀ u ∈ ns, u.oneCell' = true := fun u hm => by
        obtain ⟨j, hj⟩ := List.getElem?_of_mem hm
        have hjl : j < fs.flatten.length := by rw [← hn1]; exact (List.getElem?_eq_some_iff.1 hj).1
        exact (hn3.2 j u _ hj (List.getElem?_eq_getElem hjl)).2
      obtain ⟨v', w', hr, hown', hgr, _, hblk⟩ := run_append_own_at (P := P) w 0 t o.type e inf z sz by' ht hinf hz hsz hby hzs hb1 v es.length xs hown ad fs.length c ns hnl hn2 hone Ab5 hlen (Nat.zero_le _)
      have hex : (execOp a.eval o).run P w = .ok (.value v') w' := by
        simp only [execOp, ho, resolve, invoke, builtin, Sem.run_bind, Sem.run_pure, Result.andThen_ok, List.map_toArray, List.map_cons, List.map_nil, e1, e2, hr]
      unfold Oper.wp
      rw [hex, Oper.upon_value]
      refine ⟨v', v', R, trivial, rfl, AH3 h1 hi (fun b hb => ?_) ⟨fun b hb => ?_, hufs, xs ++ ns, ?_, ?_⟩ hgr, E9.refl _, rfl⟩
      · simp only [Own.blk] at hb ⊢
        rcases hblk with h | h
        · exact .inl AO9
        · rw [hb] at h; injection h with h; exact .inr h
      · rcases hblk with h | h
        · exact hR b AO9
        · rw [hb] at h; injection h with h; subst h; exact y6 h1.rle
      · rw [H6]; exact hown'
      · rw [List.flatten_append]; exact Y3 hdc hn3
theorem I8 {ops : Array Oper} {t e : TypeId} {sz : Nat} (ho : o.op = .buildSlice t 0 #[]) (ht : P.underlying t = some (.slice e)) (hs : ∀ w, (sizeOf e).run P w = .ok sz w)
    : OpE P G n own ops o E (fun _ : Value => True) (fun v' => own ++ [.arr v' e sz []]) (fun v' => AV.is v') :=
  fun w0 R0 R a w h1 h3 h2 => by
    have hex : (execOp a.eval o).run P w = .ok (.value (.slice (some ⟨w.heap.size, 0, none⟩) 0 0)) (w.alloc (.cells #[] e)) := by
      simp [execOp, ho, Instr.buildSlice, run_underlying ht, hs, newRow, Instr.fill, go_sem]
    unfold Oper.wp
    rw [hex, Oper.upon_value]
    exact ⟨_, _, R, trivial, rfl, T8 (l8 h1 rfl (Nat.le_refl _) (Nat.zero_le _) M8 (fun x hx => by simp at hx) ⟨by simp, fun i v x h => by simp at h⟩) (List.perm_append_comm (l₁ := [_])), E9.refl _, rfl⟩
theorem u6 {ops : Array Oper} {t e : TypeId} {len sz : Nat} {z : Value} {ps : Array (Nat × Operand)} {asl : List (Nat × List AV)} {cs : List AV} {es : List (List AV)} (ho : o.op = .buildSlice t len ps) (ht : P.underlying t = some (.slice e)) (hsz : ∀ w, (sizeOf e).run P w = .ok sz w) (hz : ∀ w, (zeroValue e).run P w = .ok z w)
    (hl : Nat.ble (len * sz) 1000 = true) (hl2 : Nat.ble len 1000 = true) (hzs : z.cells.size = sz) (h1' : z.cells.toList.all Value.oneCell' = true) (hp : EvP E ps.toList asl) (hc : afill (fun i => some (i * sz, sz)) ((List.range (len * sz)).map fun i => zeroA (z.cells[i % z.cells.size]!)) asl = some cs) (hes : chunks sz len cs = es)
    : OpE P G n own ops o E (fun _ : Value => True) (fun v' => own ++ [.arr v' e sz es]) (fun v' => AV.is v') :=
  fun w0 R0 R a w h1 h3 h2 => by
    obtain ⟨k1, k2⟩ := AS7 (o := o) (fun t ht => h2 t (Z6 ht)) hp fun p hpm => by simp [ho, Op.operands]; exact ⟨p.1, by simpa using hpm⟩
    have hone : ∀ i, i < len * sz → (z.cells[i % z.cells.size]!).oneCell' = true := fun i hi => by
      have hpos : 0 < z.cells.size := by
        rw [hzs]
        rcases Nat.eq_zero_or_pos sz with h0 | h0
        · subst h0; simp at hi
        · exact h0
      rw [getElem!_pos z.cells _ (Nat.mod_lt _ hpos)]
      exact List.all_eq_true.1 h1' _ M8
    obtain ⟨cells', f2, f3⟩ := AM2 (R := R) (place := fun i => some (i * sz, sz)) _ asl ((Array.range (len * sz)).map fun i => z.cells[i % z.cells.size]!) _ cs ⟨by simp, fun i v y hv hy => by
      rw [Array.toList_map, List.getElem?_map, Array.toList_range] at hv
      rw [List.getElem?_map] at hy
      by_cases hi : i < len * sz
      · rw [List.getElem?_range hi] at hv hy
        simp only [Option.map_some, Option.some.injEq] at hv hy
        rw [← hv, ← hy]
        exact ⟨l6 R _, hone i hi⟩
      · rw [List.getElem?_eq_none k5] at hv; cases hv⟩ k1 k2 hc
    have hlen := Nat.le_of_ble_eq_true hl
    have h5 : cells'.toList.length = len * sz := by
      rw [f3.1, Ag3 asl _ cs hc]; simp
    have hch := AJ4 sz len cs (by rw [← f3.1]; exact h5)
    have h6 : (ps.map fun (i, x) => (i, a.eval x)).toList = ps.toList.map fun p => (p.1, a.eval p.2) := by simp
    have hrun : (execOp a.eval o).run P w = .ok (.value (.slice (some ⟨w.heap.size, 0, none⟩) len len)) (w.alloc (.cells cells' e)) := by
      have hcap : ¬ (len * sz > 2 ^ 24) := by omega
      by_cases h0 : len * sz = 0
      · have h7 : (Array.range (len * sz)).map (fun x => (#[] : Array Value)[x % (#[] : Array Value).size]!) = (Array.range (len * sz)).map fun i => z.cells[i % z.cells.size]! := by rw [h0]; simp
        rw [← h7] at f2
        simp only [execOp, ho, Instr.buildSlice, run_underlying ht, hsz, hcap, if_false, Sem.run_bind, Sem.run_pure, Result.andThen_ok, Sem.run_ite, if_pos h0, h6, f2, newRow, run_newObj, World.alloc_eq]
      · simp only [execOp, ho, Instr.buildSlice, run_underlying ht, hsz, hcap, if_false, Sem.run_bind, Sem.run_pure, Result.andThen_ok, Sem.run_ite, if_neg h0, hz, h6, f2, newRow, run_newObj, World.alloc_eq]
    unfold Oper.wp
    rw [hrun, Oper.upon_value]
    have hlz : es.length = len := by rw [← hes, T0]
    refine ⟨_, _, R, trivial, rfl, T8 (l8 (sz := sz) (m := len) (cap := len) (es := es) h1 hlz (Nat.le_refl _) (by have := Nat.le_of_ble_eq_true hl2; unfold maxLen; omega) (by rw [← Array.length_toList]; exact h5) (by rw [← hes]; exact hch.2) ?_) (List.perm_append_comm (l₁ := [_])), E9.refl _, rfl⟩
    rw [List.take_of_length_le (by rw [h5]; exact Nat.le_refl _), ← hes, hch.1]
    exact f3
theorem AD1 {ops : Array Oper} {rest : List Oper} {env : List (Nat × AV)} {K : E0 → Prop} {t e : TypeId} {p q : Operand} {d sz by' : Nat} {inf : TypeInfo} {z : Value} {v : Value} {es fs : List (List AV)} (i : Nat) (hg : o.guard = none) (ho : o.op = .call { callee := .builtin .append, args := #[p, q], argTypes := #[t, t] }) (hd : o.dst = some d) (hn : Nat.blt d n = true)
    (ht : P.underlying t = some (.slice e)) (hinf : P.info? e = some inf) (hz : inf.zero = some z) (hsz : inf.size = sz) (hby : inf.bytes = by') (hzs : z.cells.size = sz) (hpos : Nat.ble 1 sz = true) (hpos2 : Nat.ble 1 by' = true) (hp : Ev (getv · env) p (AV.is v)) (hq : Q8 own (getv · env) q sz fs) (hne : fs ≠ []) (hi : own[i]? = some (.arr v e sz es))
    (hlen : (es.length + fs.length) * by' ≤ 140737488355328) (k : ∀ v', H8 P G n ops rest ⟨own.set i (.arr v' e sz (es ++ fs)), (d, AV.is v') :: env⟩ K) : H8 P G n ops (o :: rest) ⟨own, env⟩ K :=
  S2 hg fun w0 R0 R a w ⟨h1, h2, h3, h4⟩ => by
    have e1 : a.eval p = v := U7 (s := ⟨own, env⟩) (o := o) hp h2
    obtain ⟨hu, hsrc⟩ := hq G w0 R0 R a w h1 (fun t _ y hy => h2 t y hy)
    obtain ⟨ad, c, ns, e2, hn2, hn3⟩ := hsrc hne
    obtain ⟨hR, hue, xs, hown, hdc⟩ := h1.owned _ (D9 hi)
    have hb1 := Nat.le_of_ble_eq_true hpos
    have hb2 := Nat.le_of_ble_eq_true hpos2
    have hsum : es.length + fs.length ≤ 140737488355328 := Nat.le_trans (Nat.le_mul_of_pos_right _ hb2) hlen
    have hufs : ∀ x ∈ es ++ fs, x.length = sz := fun x hx => by
      rcases List.mem_append.1 hx with h | h
      · exact hue x h
      · exact hu x h
    have hnl : ns.length = fs.length * sz := by rw [hn3.1, O6 hu]
    have hone : ∀ u ∈ ns, u.oneCell' = true := fun u hm => by
      obtain ⟨j, hj⟩ := List.getElem?_of_mem hm
      have hjl : j < fs.flatten.length := by rw [← hn3.1]; exact (List.getElem?_eq_some_iff.1 hj).1
      exact (hn3.2 j u _ hj (List.getElem?_eq_getElem hjl)).2
    obtain ⟨v', w', hr, hown', hgr, _, hblk⟩ := run_append_own_at (P := P) w 0 t o.type e inf z sz by' ht hinf hz hsz hby hzs hb1 v es.length xs hown ad fs.length c ns hnl hn2 hone Ab5 hlen (Nat.zero_le _)
    have hex : (execOp a.eval o).run P w = .ok (.value v') w' := by
      simp only [execOp, ho, resolve, invoke, builtin, Sem.run_bind, Sem.run_pure, Result.andThen_ok, List.map_toArray, List.map_cons, List.map_nil, e1, e2, hr]
    unfold Oper.wp
    rw [hex, Oper.upon_value, hd]
    refine ⟨_, R, k v', E9.refl _, AH3 h1 hi (fun b hb => ?_) ⟨fun b hb => ?_, hufs, xs ++ ns, ?_, ?_⟩ hgr, U2 h2 (E9.refl _) q9 rfl, by rw [P5]; exact h3, by rw [M1]; exact h4⟩
    · simp only [Own.blk] at hb ⊢
      rcases hblk with h | h
      · exact .inl AO9
      · rw [hb] at h; injection h with h; exact .inr h
    · rcases hblk with h | h
      · exact hR b AO9
      · rw [hb] at h; injection h with h; subst h; exact y6 h1.rle
    · rw [H6]; exact hown'
    · rw [List.flatten_append]; exact Y3 hdc hn3
end
end Go.AV
namespace Go.AV
section
variable {P : Program} {G : Nat → Prop} {n : Nat} {own : List Own}
theorem X6 {t : List Own} {env : List (Nat × AV)} (k : Nat) (h : (own.drop k).Perm t) : Le G n ⟨own, env⟩ ⟨own.take k ++ t, env⟩ :=
  le_perm (by
    have := List.Perm.append_left (own.take k) h
    rw [List.take_append_drop] at this
    exact this)
theorem Q1 {t : List Own} : t.Perm (t ++ []) := by rw [List.append_nil]
theorem AX1 {t : List Own} : (t ++ []).Perm t := by rw [List.append_nil]
theorem AZ1 {sel rest : List Own} {is : List Nat} (h : pick own is = (sel, rest)) : own.Perm (sel ++ rest) := by
  induction is generalizing own sel rest with
  | nil => unfold pick at h; injection h with h1 h2; subst h1; subst h2; exact List.Perm.refl _
  | cons i is ih =>
    unfold pick at h
    cases hi : own[i]? with
    | none => rw [hi] at h; injection h with h1 h2; subst h1; subst h2; exact List.Perm.refl _
    | some x =>
      rw [hi] at h
      injection h with h1 h2; subst h1; subst h2
      exact (AM6 hi).trans (List.Perm.cons x (ih rfl))
section
variable {o : Oper} {E : F3}
end
section
variable {α : Type} {ok : α → Prop} {O : α → List Own} {V : α → AV} {o : Oper}
theorem Az2 {ops : Array Oper} {rs : List Oper} {env : List (Nat × AV)} {K : E0 → Prop} {d : Nat} {f : FuncId} {args : Array Operand} {tys : Array TypeId} {ps : List Operand} {xs : List AV} {sel rest : List Own} {own' : α → List Own} (hg : o.guard = none) (ho : o.op = .call { callee := .value (.func f), args := args, argTypes := tys }) (hd : o.dst = some d) (hn : Nat.blt d n = true)
    (hc : ∀ (vs : Array Value) (w : World), (callFunc f vs).run P w = .ok (.enter f vs) w) (hps : args.toList = ps) (hp : own.Perm (sel ++ rest)) (hs : F0 P f xs sel ok O V) (he : EvL (getv · env) ps xs) (hq : ∀ a, (O a ++ rest).Perm (own' a))
    (k : ∀ a, ok a → H8 P G n ops rs ⟨own' a, (d, V a) :: env⟩ K) : H8 P G n ops (o :: rs) ⟨own, env⟩ K :=
  S2 hg fun w0 R0 R a w ⟨h1, h2, h3, h4⟩ => by
    have hcore := T8 h1 hp
    have hden := y5 (o := o) (fun t _ y hy => h2 t y hy) he fun p hp => by simp [ho, Op.operands, Call.operands]; right; rw [← hps] at hp; exact Array.mem_toList_iff.1 hp
    have hrun : (execOp a.eval o).run P w = .ok (.enter f (ps.map a.eval).toArray) w := by
      have hargs : args.map a.eval = (ps.map a.eval).toArray := by rw [← hps]; cases args; simp
      simp only [execOp, ho, resolve, hargs, show a.eval (.func f) = .func (.func f) #[] #[] from rfl]
      simp [Deferred.ofValue, invoke, hc]
    unfold Oper.wp
    rw [hrun, Oper.upon_enter]
    refine (hs R w _ hcore.rle hden (fun q hq => hcore.owned q (List.mem_append_left _ hq)) (P0 hcore).sep).mono fun e w' ⟨x, v, R', e0, e1, e2, e3⟩ => ?_
    subst e1
    have hR := f1 hcore.rle e3.rold
    refine ⟨⟨own' x, (d, V x) :: env⟩, R', k x e0, hR, T8 (u4 hcore e3) (hq x), ?_, by rw [P5]; exact h3, by rw [M1]; exact h4⟩
    rw [hd]
    exact U2 h2 hR q9 e2
theorem AK4 {ops : Array Oper} {E : F3} {rest : List Own} (m : Nat) (h : OpE P G n own ops o E ok (fun a => rest ++ O a) V) : OpE P G n own ops o E ok (fun a => rest.take m ++ (O a ++ rest.drop m)) V := fun w0 R0 R a w h1 h2 h3 =>
  Oper.wp_mono2 (fun a' w' ⟨x, v, R', e0, e1, e2, e3, e4⟩ => ⟨x, v, R', e0, e1, T8 e2 (by
    show (rest ++ O x).Perm (rest.take m ++ (O x ++ rest.drop m))
    conv => lhs; rw [← List.take_append_drop m rest]
    rw [List.append_assoc]
    exact List.Perm.append_left _ List.perm_append_comm), e3, e4⟩) (fun _ _ _ h => h) (h w0 R0 R a w h1 h2 h3)
theorem G6 {ops : Array Oper} {E : F3} {W' : α → List Own} {g : α → Value} {e : TypeId} {sz : Nat} {es : List (List AV)} (i : Nat) (hg : ∀ a, (W' a)[i]? = some (.arr (g a) e sz es)) (h : OpE P G n own ops o E ok W' V) : OpE P G n own ops o E (fun a => ok a ∧ (g a).oneCell' = true) W' V := fun w0 R0 R a w h1 h2 h3 =>
  Oper.wp_mono2 (fun a' w' ⟨x, v, R', e0, e1, e2, e3, e4⟩ => ⟨x, v, R', ⟨e0, As1 (e2.owned _ (D9 (hg x)))⟩, e1, e2, e3, e4⟩) (fun _ _ _ h => h) (h w0 R0 R a w h1 h2 h3)
theorem G4 {ops : Array Oper} {E : F3} {t : TypeId} {z : Value} (ho : o.op = .alloc t)
    (hz : ∀ w, (zeroValue t).run P w = .ok z w) (h1' : z.cells.toList.all Value.oneCell' = true) : OpE P G n own ops o E (fun _ : Nat => True) (fun b => own ++ [.box b t (z.cells.toList.map zeroA)]) (fun b => AV.ptr b 0) :=
  fun w0 R0 R a w h1 h3 h2 => by
    have hrun : (execOp a.eval o).run P w = .ok (.value (.pointer (some ⟨w.heap.size, 0, none⟩))) (w.alloc (.cells z.cells.toList.toArray t)) := by
      simp only [execOp, ho, Instr.alloc, newVar, newRow, hz, Array.toArray_toList, Sem.run_bind, Sem.run_pure, Result.andThen_ok, run_newObj, World.alloc_eq]
    unfold Oper.wp
    rw [hrun, Oper.upon_value]
    exact ⟨w.heap.size, _, R, trivial, rfl, T8 (AW2 h1 ⟨by simp, fun i v y hv hy => by
      rw [List.getElem?_map, hv] at hy
      simp at hy; subst hy
      exact ⟨l6 R v, List.all_eq_true.1 h1' v (D9 hv)⟩⟩) (List.perm_append_comm (l₁ := [_])), E9.refl _, rfl⟩
theorem N4 {ops : Array Oper} {E : F3} {t t' : TypeId} {p q : Operand} {b : Nat} {cs ys : List AV} {x : AV} (i : Nat) (ho : o.op = .store t p q) (hd : o.dst = none)
    (hp : Ev E p (AV.ptr b 0)) (hq : Ev E q x) (hx : U3 x ys) (hi : own[i]? = some (.box b t' cs)) (hs : ∀ w, (sizeOf t).run P w = .ok ys.length w) (hl' : Nat.beq ys.length cs.length = true) : OpE P G n own ops o E (fun _ : Unit => True) (fun _ => own.set i (.box b t' ys)) (fun _ => AV.int 0) :=
  fun w0 R0 R a w h1 h3 h2 => by
    have e1 : a.eval p = .pointer (some ⟨b, 0, none⟩) := AF0 (ops := ops) hp qz9 h2
    have e2 := hx R _ (AF0 (ops := ops) hq qz9 h2)
    have e := Nat.eq_of_beq_eq_true hl'
    obtain ⟨hR, vs, hb, hdc⟩ := h1.owned _ (D9 hi)
    have hsz : (a.eval q).cells.size = ys.length := by rw [← Array.length_toList]; exact e2.1
    have hst := AB0 (P := P) (t := t) (off := 0) (u := a.eval q) hb (by rw [hsz]; exact hs w) (by rw [hsz, hdc.1]; omega) (fun u hu => by
      obtain ⟨j, hj⟩ := List.getElem?_of_mem hu
      have hjl : j < ys.length := by rw [← e2.1]; exact (List.getElem?_eq_some_iff.1 hj).1
      exact (e2.2 j u _ hj (List.getElem?_eq_getElem hjl)).2)
    have hrun : (execOp a.eval o).run P w = .ok .skip (w.setRow b (vs.take 0 ++ (a.eval q).cells.toList ++ vs.drop (0 + (a.eval q).cells.size)).toArray) := by
      simp only [execOp, ho, e1, hst, Sem.run_bind, Sem.run_pure, Result.andThen_ok]
    unfold Oper.wp
    rw [hrun, Oper.upon_skip, hd]
    refine ⟨(), .int .i64 0, R, trivial, rfl, l7 h1 hi rfl rfl ⟨hR, _, setRow_heap w b _ _ t' _ hb, ?_⟩ (V1 w b _), E9.refl _, rfl⟩
    rw [← Array.length_toList]
    have := o8 (off := 0) hdc e2 qz6
    rw [AY5 e] at this
    exact this
theorem AQ2 {ops : Array Oper} {rs : List Oper} {env : List (Nat × AV)} {K : E0 → Prop} {d : Nat} {f : FuncId} {args : Array Operand} {tys : Array TypeId} {ps : List Operand} {xs : List AV} {s1 r1 : List Own} (is : List Nat) (m j : Nat) (B D : List Own) (NT : α → List Own) (hg : o.guard = none) (ho : o.op = .call { callee := .value (.func f), args := args, argTypes := tys }) (hd : o.dst = some d) (hn : Nat.blt d n = true)
    (hc : ∀ (vs : Array Value) (w : World), (callFunc f vs).run P w = .ok (.enter f vs) w) (hps : args.toList = ps) (hp : pick own is = (s1, r1)) (hB : (r1.drop m).Perm (B ++ D)) (hs : F0 P f xs (s1 ++ B) ok O V) (he : EvL (getv · env) ps xs) (hN : ∀ a, ((O a).drop j ++ D).Perm (NT a))
    (k : ∀ a, ok a → H8 P G n ops rs ⟨(O a).take j ++ (r1.take m ++ NT a), (d, V a) :: env⟩ K) : H8 P G n ops (o :: rs) ⟨own, env⟩ K := by
  refine Az2 (sel := s1 ++ B) (rest := r1.take m ++ D) (own' := fun a => (O a).take j ++ (r1.take m ++ NT a)) hg ho hd hn hc hps ?_ hs he (fun a => ?_) k
  · refine (AZ1 hp).trans ?_
    have h1 : r1.Perm (r1.take m ++ (B ++ D)) := by
      have := List.Perm.append_left (r1.take m) hB
      rwa [List.take_append_drop] at this
    refine (List.Perm.append_left s1 h1).trans ?_
    rw [List.append_assoc]
    refine List.Perm.append_left s1 ?_
    rw [← List.append_assoc, ← List.append_assoc]
    exact List.Perm.append_right D List.perm_append_comm
  · have h1 : (O a ++ (r1.take m ++ D)).Perm ((O a).take j ++ (r1.take m ++ ((O a).drop j ++ D))) := by
      conv => lhs; rw [← List.take_append_drop j (O a)]
      rw [List.append_assoc]
      refine List.Perm.append_left _ ?_
      rw [← List.append_assoc, ← List.append_assoc]
      exact List.Perm.append_right D List.perm_append_comm
    exact h1.trans (List.Perm.append_left _ (List.Perm.append_left _ (hN a)))
theorem j1 {fn : Func} {s : E0} {sel rest : List Own} (is : List Nat) (m : Nat) (B D : List Own) (x : α) (hx : ok x) (hp : pick s.own is = (sel, rest)) (hB : (rest.drop m).Perm (B ++ D)) (ho : O x = sel ++ B) (h : ∀ w0 R0 R a w, St G n w0 R0 s R a w → ∃ v, (results fn a.tmps).run P w = .ok v w ∧ (V x).den R v) : K2 P G n fn s ok O V := fun w0 R0 R a w hs => by
  obtain ⟨v, h1, h2⟩ := h w0 R0 R a w hs
  refine ⟨x, v, R, hx, h1, h2, E9.refl _, ?_⟩
  rw [ho]
  refine P0 (b := rest.take m ++ D) (T8 hs.1 ?_)
  refine (AZ1 hp).trans ?_
  have h1 : rest.Perm (rest.take m ++ (B ++ D)) := by
    have := List.Perm.append_left (rest.take m) hB
    rwa [List.take_append_drop] at this
  refine (List.Perm.append_left sel h1).trans ?_
  rw [List.append_assoc]
  refine List.Perm.append_left sel ?_
  rw [← List.append_assoc, ← List.append_assoc]
  exact List.Perm.append_right D List.perm_append_comm
end
end
inductive OT where
  | nil
  | pure (i : Nat) (t : OT)
  | e1 (i : Nat) (t : OT)
  | e2 (i : Nat) (t : OT) (j : Nat) (u : OT)
def OT.deep : OT → Nat → Bool
  | .nil, 0 => true
  | .pure _ t, f + 1 => t.deep f
  | .e1 _ t, f + 1 => t.deep f
  | .e2 _ t _ u, f + 1 => t.deep f && u.deep f
  | _, _ => false
def ordT (md : Region.Mode) (ops : Array Oper) (g m : Nat) : OT → Array Bool → Bool
  | .nil, listed => Region.seqB md ops g m listed
  | .pure i r, listed => (Region.ready md ops listed).contains i && Region.free md ops listed i && Nat.blt i m && ordT md ops g m r (listed.setIfInBounds i true)
  | .e1 i r, listed => decide (Region.ready md ops listed = [i]) && Nat.blt i m && ordT md ops g m r (listed.setIfInBounds i true)
  | .e2 i r j u, listed => decide (Region.ready md ops listed = [i, j]) && Nat.blt i m && Nat.blt j m && ordT md ops g m r (listed.setIfInBounds i true) && ordT md ops g m u (listed.setIfInBounds j true)
def treeB (md : Region.Mode) (ops : Array Oper) (m : Nat) (ord : OT) : Bool :=
  decide (m < ops.size) && ord.deep m && Region.sinkB md ops m && Region.chainB md ops m && ordT md ops (ops.size - m) m ord (Array.replicate ops.size false)
section
variable {P : Program} {G : Nat → Prop} {n : Nat}
def g6 (P : Program) (G : Nat → Prop) (n : Nat) (Inv : List Own → Prop) (ops : Array Oper) (i : Nat) (env : List (Nat × AV)) (W : List Own) (K : List (Nat × AV) → List Own → Prop) : Prop :=
  ∃ o, ops[i]? = some o ∧ o.guard = none ∧ ∃ (α : Type) (ok : α → Prop) (W' : α → List Own) (V : α → AV), OpE P G n W ops o (getv · env) ok W' V ∧ (∀ a, ok a → Inv (W' a)) ∧ ∀ a, ok a → K (putv o.dst (V a) env) (W' a)
def BT (P : Program) (G : Nat → Prop) (n : Nat) (Inv : List Own → Prop) (ops : Array Oper) : OT → List (Nat × AV) → List Own → (List (Nat × AV) → List Own → Prop) → Prop
  | .nil, env, W, K => K env W
  | .pure i r, env, W, K => ∃ o, ops[i]? = some o ∧ ∃ x, (∀ W', Inv W' → OpA P G n W' ops o (getv · env) x) ∧ BT P G n Inv ops r (putv o.dst x env) W K
  | .e1 i r, env, W, K => g6 P G n Inv ops i env W fun env' W' => BT P G n Inv ops r env' W' K
  | .e2 i r j u, env, W, K => (g6 P G n Inv ops i env W fun env' W' => BT P G n Inv ops r env' W' K) ∧ g6 P G n Inv ops j env W fun env' W' => BT P G n Inv ops u env' W' K
theorem AB7 {Inv : List Own → Prop} {md : Region.Mode} {ops : Array Oper} {m g : Nat} {K : List (Nat × AV) → List Own → Prop} (hs : Region.sinkB md ops m = true) (hc : Region.chainB md ops m = true) (hn : m < ops.size) :
    ∀ (l : OT) (f : Nat) (listed : Array Bool) (env : List (Nat × AV)) (W : List Own), l.deep f = true → HeadInv md ops m listed → Inv W →
    ordT md ops g m l listed = true → BT P G n Inv ops l env W K →
    wpAnyB P G n Inv md ops m (fun listed' E W => Region.seqB md ops g m listed' = true ∧ ∃ env', E = (getv · env') ∧ K env' W) f listed (getv · env) W
  | .nil, 0, listed, env, W, _, _, _, hB, h => ⟨hB, env, rfl, h⟩
  | .nil, _ + 1, _, _, _, hdp, _, _, _, _ => by cases hdp
  | .pure _ _, 0, _, _, _, hdp, _, _, _, _ => by cases hdp
  | .e1 _ _, 0, _, _, _, hdp, _, _, _, _ => by cases hdp
  | .e2 _ _ _ _, 0, _, _, _, hdp, _, _, _, _ => by cases hdp
  | .pure i l, f + 1, listed, env, W, hdp, inv, hW, hB, h => by
    simp only [ordT, Bool.and_eq_true] at hB
    obtain ⟨⟨⟨hr, hf⟩, hlt⟩, hB'⟩ := hB
    have hkn : i < m := Nat.blt_eq.mp hlt
    have hr' : i ∈ Region.ready md ops listed := by simpa using hr
    obtain ⟨o, ho, x, hx, hK⟩ := h
    refine AE9 ho hs hc hn hkn (fun listed' E W hL => seqB_ready hL.1) f listed _ W inv hW (Region.free_spec ho hf) hr' hx ?_
    rw [← L1]
    exact AB7 hs hc hn l f _ _ W hdp (inv.set hr' hkn) hW hB' hK
  | .e1 i l, f + 1, listed, env, W, hdp, inv, hW, hB, h => by
    simp only [ordT, Bool.and_eq_true, decide_eq_true_eq] at hB
    obtain ⟨⟨hr, hlt⟩, hB'⟩ := hB
    have hkn : i < m := Nat.blt_eq.mp hlt
    have hr' : i ∈ Region.ready md ops listed := by rw [hr]; simp
    obtain ⟨o, ho, hg, α, ok, W', V, h1, h2, h3⟩ := h
    refine ⟨fun h0 => AP2, fun j hj => ?_⟩
    rw [hr] at hj
    have : j = i := by simpa using hj
    subst this
    refine ⟨hkn, ?_⟩
    unfold qB
    simp only [ho]
    refine .inr ⟨hg, α, ok, W', V, h1, h2, fun a ha => ?_⟩
    rw [← L1]
    exact AB7 hs hc hn l f _ _ (W' a) hdp (inv.set hr' hkn) (h2 a ha) hB' (h3 a ha)
  | .e2 i l k u, f + 1, listed, env, W, hdp, inv, hW, hB, h => by
    simp only [ordT, Bool.and_eq_true, decide_eq_true_eq] at hB
    obtain ⟨⟨⟨⟨hr, hlt⟩, hlt2⟩, hB'⟩, hB2⟩ := hB
    simp only [OT.deep, Bool.and_eq_true] at hdp
    have hkn : i < m := Nat.blt_eq.mp hlt
    have hkn2 : k < m := Nat.blt_eq.mp hlt2
    have hr' : i ∈ Region.ready md ops listed := by rw [hr]; simp
    have hr2 : k ∈ Region.ready md ops listed := by rw [hr]; simp
    obtain ⟨⟨o, ho, hg, α, ok, W', V, h1, h2, h3⟩, ⟨o', ho', hg', α', ok', W'', V', h1', h2', h3'⟩⟩ := h
    refine ⟨fun h0 => AP2, fun j hj => ?_⟩
    rw [hr] at hj
    simp only [List.mem_cons, List.not_mem_nil, or_false] at hj
    rcases hj with hj | hj
    · subst hj
      refine ⟨hkn, ?_⟩
      unfold qB
      simp only [ho]
      refine .inr ⟨hg, α, ok, W', V, h1, h2, fun a ha => ?_⟩
      rw [← L1]
      exact AB7 hs hc hn l f _ _ (W' a) hdp.1 (inv.set hr' hkn) (h2 a ha) hB' (h3 a ha)
    · subst hj
      refine ⟨hkn2, ?_⟩
      unfold qB
      simp only [ho']
      refine .inr ⟨hg', α', ok', W'', V', h1', h2', fun a ha => ?_⟩
      rw [← L1]
      exact AB7 hs hc hn u f _ _ (W'' a) hdp.2 (inv.set hr2 hkn2) (h2' a ha) hB2 (h3' a ha)
theorem K7 {id : Nat} {l : List Oper} {Q : Exit → E0 → Prop} {env : List (Nat × AV)} {own : List Own} (base : List Own) (m : Nat) (ord : OT) (hm : P.follows .mixedOrders = true) (hB : treeB .any l.toArray m ord = true) (hd : dstOk n l = true) (hb : k6 base own)
  (h : BT P G n (k6 base) l.toArray ord env own (fun env' W => H8 P G n l.toArray (l.drop m) ⟨W, env'⟩ (Q .normal))) : AWP P G n (.region id l.toArray true) Q ⟨own, env⟩ := fun w0 R0 R a w ⟨h1, h2, h3, h4⟩ => by
 simp only [treeB, Bool.and_eq_true, decide_eq_true_eq] at hB
 obtain ⟨⟨⟨⟨hn, hdp⟩, hs⟩, hc⟩, hlex⟩ := hB
 have hn' : m < l.length := by simpa using hn
 have hdl : (l.drop m).length = l.toArray.size - m := by simp
 have inv0 : HeadInv .any l.toArray m (Array.replicate l.toArray.size false) :=
  ⟨by simp, fun j oj _ hl => qz53, fun t _ ht => getD_in (by simpa using ht) (getD_replicate_false _ _)⟩
 have H := AB7 (g := l.toArray.size - m) hs hc hn ord m _ env own hdp inv0 hb hlex h
 refine wp_region_any hm ?_
 have := Z9 (w0 := w0) (R0 := R0) (R00 := R) (g := l.toArray.size - m) (Q' := fun e a' w' => ∃ s' R', Q e s' ∧ E9 R R' ∧ St G n w0 R0 s' R' a' w') (fun i o ho d e => n4 hd i o (by simpa using ho) d e) (fun listed E W R' a' w' g1 g2 g3 g4 g5 hL => by
  obtain ⟨hL1, env', rfl, hL2⟩ := hL
  have := wpAny_of_seq (P := P) (md := .any) (Q' := fun e a' w' => ∃ s' R', Q e s' ∧ E9 R R' ∧ St G n w0 R0 s' R' a' w') (l.drop m) m listed a' w' (fun j => by simp [List.getElem?_drop]) qz84
   (T6 (R00 := R) (K := Q .normal) (fun s' R' a w q r1 r2 => ⟨s', R', q, r1, r2⟩) _ (⟨W, env'⟩ : E0) R' a' w' g1 ⟨g2, g3, g4, g5⟩ hL2)
  rwa [hdl] at this) _ _ _ own R a _ (E9.refl _) (l5 h1) h2 h3 h4 H
 rw [show m + (l.toArray.size - m) = l.toArray.size by omega] at this
 exact this
section
variable {ops : Array Oper} {i j : Nat} {o : Oper} {r u : OT} {env : List (Nat × AV)} {W : List Own} {base : List Own} {K : List (Nat × AV) → List Own → Prop} {d : Nat} {x : AV}
theorem bt_nil {Inv : List Own → Prop} (h : K env W) : BT P G n Inv ops .nil env W K := h
theorem M6 (ho : ops[i]? = some o) (hg : o.guard = none) (hd : o.dst = some d) (h : ∀ ext, OpW P G n (base ++ ext) o (getv · env) x) (k : BT P G n (k6 base) ops r ((d, x) :: env) W K) : BT P G n (k6 base) ops (.pure i r) env W K :=
  ⟨o, ho, x, fun W' ⟨ext, e⟩ => by subst e; exact AB4 hg (h ext), by rw [hd]; exact k⟩
theorem bt_e1 {Inv : List Own → Prop} (h : g6 P G n Inv ops i env W fun env' W' => BT P G n Inv ops r env' W' K) : BT P G n Inv ops (.e1 i r) env W K := h
theorem Y8 {Inv : List Own → Prop} (h : g6 P G n Inv ops i env W fun env' W' => BT P G n Inv ops r env' W' K) (k : g6 P G n Inv ops j env W fun env' W' => BT P G n Inv ops u env' W' K) : BT P G n Inv ops (.e2 i r j u) env W K := ⟨h, k⟩
theorem Y4 {Inv : List Own → Prop} {α : Type} {ok : α → Prop} {W' : α → List Own} {V : α → AV} (ho : ops[i]? = some o) (hg : o.guard = none) (hd : o.dst = none) (h : OpE P G n W ops o (getv · env) ok W' V) (hi : ∀ a, ok a → Inv (W' a)) (k : ∀ a, ok a → K env (W' a)) : g6 P G n Inv ops i env W K :=
  ⟨o, ho, hg, α, ok, W', V, h, hi, fun a ha => by rw [hd]; exact k a ha⟩
theorem C4 {Inv : List Own → Prop} {α : Type} {ok : α → Prop} {W' : α → List Own} {V : α → AV} (ho : ops[i]? = some o) (hg : o.guard = none) (hd : o.dst = some d) (h : OpE P G n W ops o (getv · env) ok W' V) (hi : ∀ a, ok a → Inv (W' a)) (k : ∀ a, ok a → K ((d, V a) :: env) (W' a)) : g6 P G n Inv ops i env W K :=
  ⟨o, ho, hg, α, ok, W', V, h, hi, fun a ha => by rw [hd]; exact k a ha⟩
end
end
section
variable {T X : Type} {cs : T → List AV} {ocs : T → X → List AV} {ow : T → X → List Own}
def nrows (ocs : T → X → List AV) (l : List T) (xs : List X) : List (List AV) := List.zipWith ocs l xs
def nin (ow : T → X → List Own) (l : List T) (xs : List X) : List Own := (List.zipWith ow l xs).flatten
theorem AH6 {l : List T} {xs : List X} (h : xs.length = l.length) : (nrows ocs l xs).length = l.length := by unfold nrows; rw [List.length_zipWith]; omega
theorem AH7 {l : List T} {xs : List X} {i : Nat} {p : T} {x : X} (hp : l[i]? = some p) (hx : xs[i]? = some x) : (nrows ocs l xs)[i]? = some (ocs p x) := by
  unfold nrows; rw [List.getElem?_zipWith, hp, hx]
theorem Av3 {l : List T} {xs : List X} {p : T} {x : X} (h : xs.length = l.length) : nrows ocs (l ++ [p]) (xs ++ [x]) = nrows ocs l xs ++ [ocs p x] := by
  unfold nrows; rw [List.zipWith_append h.symm]; rfl
theorem nin_snoc {l : List T} {xs : List X} {p : T} {x : X} (h : xs.length = l.length) : (ow p x ++ nin ow l xs).Perm (nin ow (l ++ [p]) (xs ++ [x])) := by
  unfold nin; rw [List.zipWith_append h.symm, List.flatten_append]
  refine List.perm_append_comm.trans ?_
  simp
theorem AH8 {l : List T} {i : Nat} {p : T} (h : l[i]? = some p) : l.take (i + 1) = l.take i ++ [p] := by rw [List.take_add_one, h]; rfl
theorem AX2 {l : List T} {xs : List X} {p : T} {x : X} {i : Nat} (hp : l[i]? = some p) (h : xs.length = i) : (ow p x ++ nin ow (l.take i) xs).Perm (nin ow (l.take (i + 1)) (xs ++ [x])) := by
  have hi := (List.getElem?_eq_some_iff.1 hp).1
  rw [AH8 hp]
  exact nin_snoc (by rw [h, G8]; omega)
theorem Av4 {l : List T} {xs : List X} {p : T} {x : X} {i : Nat} (hp : l[i]? = some p) (h : xs.length = i) : nrows ocs (l.take i) xs ++ [ocs p x] = nrows ocs (l.take (i + 1)) (xs ++ [x]) := by
  have hi := (List.getElem?_eq_some_iff.1 hp).1
  rw [AH8 hp, Av3 (by rw [h, G8]; omega)]
theorem n5 {p : T} {x : X} : ∀ {l : List T} {xs : List X} {i : Nat}, l[i]? = some p → xs[i]? = some x → (nin ow l xs).Perm (ow p x ++ nin ow (l.eraseIdx i) (xs.eraseIdx i))
  | [], _, _, h, _ => by simp at h
  | _ :: _, [], _, _, h => by simp at h
  | q :: l, y :: xs, 0, hp, hx => by simp at hp hx; subst hp; subst hx; exact List.Perm.refl _
  | q :: l, y :: xs, i + 1, hp, hx => by
    have ih := n5 (l := l) (xs := xs) (i := i) (by simpa using hp) (by simpa using hx)
    unfold nin at *
    simp only [List.zipWith_cons_cons, List.flatten_cons, AS4]
    refine (List.Perm.append_left (ow q y) ih).trans ?_
    rw [← List.append_assoc, ← List.append_assoc]
    exact List.Perm.append_right _ List.perm_append_comm
theorem Ag4 {p p' : T} {x : X} : ∀ {l : List T} {xs : List X} {i : Nat}, l[i]? = some p → xs[i]? = some x → (nrows ocs l xs).set i (ocs p' x) = nrows ocs (l.set i p') xs
  | [], _, _, h, _ => by simp at h
  | _ :: _, [], _, _, h => by simp at h
  | q :: l, y :: xs, 0, hp, hx => by simp at hx; subst hx; rfl
  | q :: l, y :: xs, i + 1, hp, hx => by
    have ih := Ag4 (p := p) (p' := p') (x := x) (l := l) (xs := xs) (i := i) (by simpa using hp) (by simpa using hx)
    unfold nrows at *
    simp only [List.zipWith_cons_cons, AC5]
    rw [ih]
theorem nin_mem {p : T} {x : X} {l : List T} {xs : List X} {i : Nat} (hp : l[i]? = some p) (hx : xs[i]? = some x) : ∀ o ∈ ow p x, o ∈ nin ow l xs := fun o ho => (n5 (ow := ow) (i := i) hp hx).mem_iff.2 (List.mem_append_left _ ho)
end
section
variable {T : Type}
variable {mk : T → Int → T} {mn : T → Int → Int}
end
section
variable {P : Program} {G : Nat → Prop} {n : Nat} {own : List Own} {o : Oper}
theorem AB8 {rest : List Own} : ∀ b, (fun _ : Nat => False) b → b ∈ rest.filterMap Own.blk := fun _ h => h.elim
theorem M7 {rest : List Own} : ∀ b, f8 [] b → b ∈ rest.filterMap Own.blk := fun _ ⟨_, h, _⟩ => by simp at h
theorem K9 {q q' : Own} {ow rest : List Own} (i : Nat) (h : rest[i]? = some q') (hb : Own.blk q = Own.blk q') (k : ∀ b, f8 ow b → b ∈ rest.filterMap Own.blk) : ∀ b, f8 (q :: ow) b → b ∈ rest.filterMap Own.blk := fun b ⟨x, hx, hxb⟩ => by
  rcases List.mem_cons.1 hx with rfl | hx
  · exact List.mem_filterMap.2 ⟨q', D9 h, hb ▸ hxb⟩
  · exact k b ⟨x, hx, hxb⟩
theorem AN1 {sel rest : List Own} {w0 : World} {R0 R : D6} {w : World} (h : H7 G w0 R0 (sel ++ rest) R w) (hG : ∀ b, G b → b ∈ rest.filterMap Own.blk) : H7 G w0 R0 rest (lend sel w R) w := by
  have hl := P0 h
  refine ⟨h.os, h.tape, h.output, h.size, h.block, AK0 hl, fun b hb => ?_, fun q hq => ?_, fun q hq => h.fresh q (List.mem_append_right _ hq), (AC9 h).sep⟩
  · unfold lend
    cases hob : ownB sel b with
    | true =>
      obtain ⟨x, hx, hxb⟩ := Z7 hob
      rcases h.fresh x (List.mem_append_left _ hx) b hxb with h1 | h1
      · omega
      · obtain ⟨y, hy, hyb⟩ := List.mem_filterMap.1 (hG b h1)
        exact absurd hyb (s0 h.sep hx hy hxb)
    | false => exact h.rold b hb
  · have hk := h.owned q (List.mem_append_right _ hq)
    refine Own.ok_keep hk (Y2 hl) fun b hb => ⟨rfl, ?_⟩
    unfold lend
    cases hob : ownB sel b with
    | true =>
      obtain ⟨x, hx, hxb⟩ := Z7 hob
      exact absurd hb (s0 h.sep hx hq hxb)
    | false => exact (Own.ok_blk hk hb).1
theorem Ak5 {env : List (Nat × AV)} {sel rest : List Own} {x y : AV} (is : List Nat) (t : Nat) (hp : pick own is = (sel, rest)) (ht : getv t env = some x) (hl : c8 sel x y) (hG : ∀ b, G b → b ∈ rest.filterMap Own.blk) : Le G n ⟨own, env⟩ ⟨rest, (t, y) :: env⟩ := fun w0 R0 R a w ⟨h1, h2, h3⟩ => by
  have hc := Z8 h1 hp
  refine ⟨lend sel w R, Y2 (P0 hc), AN1 hc hG, fun k z hz => ?_, h3⟩
  simp only [getv] at hz
  by_cases hk : t = k
  · subst hk
    simp [Nat.beq_refl] at hz
    rw [← hz]
    exact hl G w0 R0 R w _ (P0 hc) (h2 t x ht)
  · rw [i7 hk, cond_false] at hz
    exact z.mono (Y2 (P0 hc)) (h2 k z hz)
def bandI (x y : Int) : Int := IntKind.u64.wrap (((BitVec.ofInt IntKind.u64.bits x &&& BitVec.ofInt IntKind.u64.bits y).toNat : Nat) : Int)
theorem w_band {E : F3} {t ty : TypeId} {p q : Operand} {x y : Int} (ho : o.op = .binOp .and t p q ty) (hp : Ev E p (AV.ik .u64 x)) (hq : Ev E q (AV.ik .u64 y)) : OpW P G n own o E (AV.ik .u64 (bandI x y)) := G0 fun R a w _ he => by
  have h1 : a.eval p = .int .u64 x := D7 hp qz9 he
  have h2 : a.eval q = .int .u64 y := D7 hq qz9 he
  exact ⟨.int .u64 (bandI x y), by simp only [execOp, ho, h1, h2]; simp [go_sem]; rfl, rfl⟩
theorem Ah8 {Inv : List Own → Prop} {md : Region.Mode} {ops : Array Oper} {m i : Nat} {oi : Oper} {x : AV} {L : Array Bool → F3 → List Own → Prop} (hi : ops[i]? = some oi)
    (hm0 : m = ops.size) (hin : i < m)
    (hdone : ∀ listed E W, L listed E W → ∀ j ∈ Region.ready md ops listed, m ≤ j) :
    ∀ (f : Nat) (listed : Array Bool) (E : F3) (W : List Own), HeadInv md ops m listed → Inv W →
      (∀ j oj, ops[j]? = some oj → j ≠ i → listed.getD j true = false → (∀ e ∈ oj.after, Region.binds md e = true → e.on ≠ i) → oi.apart ops oj = true) →
      i ∈ Region.ready md ops listed → (∀ W, Inv W → OpA P G n W ops oi E x) →
      wpAnyB P G n Inv md ops m L f (listed.setIfInBounds i true) (updF oi.dst x E) W → wpAnyB P G n Inv md ops m L (f + 1) listed E W := by
  have put : ∀ {K : F3 → List Own → Prop} {E : F3} {W : List Own}, Inv W → (∀ W, Inv W → OpA P G n W ops oi E x) → K (updF oi.dst x E) W → qB P G n Inv ops i K E W := fun hW hy hK => by
    unfold qB
    simp only [hi]
    exact .inl ⟨x, hy _ hW, hK⟩
  intro f
  induction f with
  | zero =>
    intro listed E W inv hW _ hr hy H
    have hun := (mem_ready.1 hr).1
    refine ⟨fun h => AP0, fun j hj => ?_⟩
    have hjn : j < m := by
      rcases Nat.lt_or_ge j m with h | h
      · exact h
      · obtain ⟨_, oj, hoj, _⟩ := mem_ready.1 hj
        have := (Array.getElem?_eq_some_iff.1 hoj).1
        omega
    refine ⟨hjn, ?_⟩
    by_cases hji : j = i
    · subst hji; exact put hW hy H
    · have := hdone _ _ _ H j (ready_mono hj hji)
      omega
  | succ f ih =>
    intro listed E W inv hW hfree hr hy H
    have hun := (mem_ready.1 hr).1
    refine ⟨fun h => AP0, fun j hj => ?_⟩
    have hjn : j < m := by
      rcases Nat.lt_or_ge j m with h | h
      · exact h
      · obtain ⟨_, oj, hoj, _⟩ := mem_ready.1 hj
        have := (Array.getElem?_eq_some_iff.1 hoj).1
        omega
    refine ⟨hjn, ?_⟩
    by_cases hji : j = i
    · subst hji; exact put hW hy H
    · have h1 := (H.2 j (ready_mono hj hji)).2
      obtain ⟨hjun, oj, hoj, hall⟩ := mem_ready.1 hj
      have hnot : ∀ e ∈ oj.after, Region.binds md e = true → e.on ≠ i := fun e he hb heq => by
        have h1 := hall e he hb
        rw [heq, getD_both hun] at h1
        cases h1
      have h2 := qB_put hoj (hfree j oj hoj hji hjun hnot) hW hy h1
      have hfree' : ∀ k ok, ops[k]? = some ok → k ≠ i → (listed.setIfInBounds j true).getD k true = false →
          (∀ e ∈ ok.after, Region.binds md e = true → e.on ≠ i) → oi.apart ops ok = true := fun k ok hk hki hun hno => by
        refine hfree k ok hk hki ?_ hno
        by_cases hjk : j = k
        · subst hjk; exact hjun
        · rw [getD_set_ne true hjk] at hun; exact hun
      refine As2 hW (fun E' W' hW' h3 => ih (listed.setIfInBounds j true) E' W' (inv.set hj hjn) hW' hfree' (ready_mono hr (Ne.symm hji)) h3.1 ?_) h2
      rw [Array.setIfInBounds_comm _ _ hji]
      exact h3.2
def treeZ (md : Region.Mode) (ops : Array Oper) (m : Nat) (ord : OT) : Bool :=
  decide (m = ops.size) && ord.deep m && ordT md ops (ops.size - m) m ord (Array.replicate ops.size false)
theorem u7 {Inv : List Own → Prop} {md : Region.Mode} {ops : Array Oper} {m g : Nat} {K : List (Nat × AV) → List Own → Prop} (hm0 : m = ops.size) :
    ∀ (l : OT) (f : Nat) (listed : Array Bool) (env : List (Nat × AV)) (W : List Own), l.deep f = true → HeadInv md ops m listed → Inv W →
    ordT md ops g m l listed = true → BT P G n Inv ops l env W K →
    wpAnyB P G n Inv md ops m (fun listed' E W => Region.seqB md ops g m listed' = true ∧ ∃ env', E = (getv · env') ∧ K env' W) f listed (getv · env) W
  | .nil, 0, listed, env, W, _, _, _, hB, h => ⟨hB, env, rfl, h⟩
  | .nil, _ + 1, _, _, _, hdp, _, _, _, _ => by cases hdp
  | .pure _ _, 0, _, _, _, hdp, _, _, _, _ => by cases hdp
  | .e1 _ _, 0, _, _, _, hdp, _, _, _, _ => by cases hdp
  | .e2 _ _ _ _, 0, _, _, _, hdp, _, _, _, _ => by cases hdp
  | .pure i l, f + 1, listed, env, W, hdp, inv, hW, hB, h => by
    simp only [ordT, Bool.and_eq_true] at hB
    obtain ⟨⟨⟨hr, hf⟩, hlt⟩, hB'⟩ := hB
    have hkn : i < m := Nat.blt_eq.mp hlt
    have hr' : i ∈ Region.ready md ops listed := by simpa using hr
    obtain ⟨o, ho, x, hx, hK⟩ := h
    refine Ah8 ho hm0 hkn (fun listed' E W hL => seqB_ready hL.1) f listed _ W inv hW (Region.free_spec ho hf) hr' hx ?_
    rw [← L1]
    exact u7 hm0 l f _ _ W hdp (inv.set hr' hkn) hW hB' hK
  | .e1 i l, f + 1, listed, env, W, hdp, inv, hW, hB, h => by
    simp only [ordT, Bool.and_eq_true, decide_eq_true_eq] at hB
    obtain ⟨⟨hr, hlt⟩, hB'⟩ := hB
    have hkn : i < m := Nat.blt_eq.mp hlt
    have hr' : i ∈ Region.ready md ops listed := by rw [hr]; simp
    obtain ⟨o, ho, hg, α, ok, W', V, h1, h2, h3⟩ := h
    refine ⟨fun h0 => AP2, fun j hj => ?_⟩
    rw [hr] at hj
    have : j = i := by simpa using hj
    subst this
    refine ⟨hkn, ?_⟩
    unfold qB
    simp only [ho]
    refine .inr ⟨hg, α, ok, W', V, h1, h2, fun a ha => ?_⟩
    rw [← L1]
    exact u7 hm0 l f _ _ (W' a) hdp (inv.set hr' hkn) (h2 a ha) hB' (h3 a ha)
  | .e2 i l k u, f + 1, listed, env, W, hdp, inv, hW, hB, h => by
    simp only [ordT, Bool.and_eq_true, decide_eq_true_eq] at hB
    obtain ⟨⟨⟨⟨hr, hlt⟩, hlt2⟩, hB'⟩, hB2⟩ := hB
    simp only [OT.deep, Bool.and_eq_true] at hdp
    have hkn : i < m := Nat.blt_eq.mp hlt
    have hkn2 : k < m := Nat.blt_eq.mp hlt2
    have hr' : i ∈ Region.ready md ops listed := by rw [hr]; simp
    have hr2 : k ∈ Region.ready md ops listed := by rw [hr]; simp
    obtain ⟨⟨o, ho, hg, α, ok, W', V, h1, h2, h3⟩, ⟨o', ho', hg', α', ok', W'', V', h1', h2', h3'⟩⟩ := h
    refine ⟨fun h0 => AP2, fun j hj => ?_⟩
    rw [hr] at hj
    simp only [List.mem_cons, List.not_mem_nil, or_false] at hj
    rcases hj with hj | hj
    · subst hj
      refine ⟨hkn, ?_⟩
      unfold qB
      simp only [ho]
      refine .inr ⟨hg, α, ok, W', V, h1, h2, fun a ha => ?_⟩
      rw [← L1]
      exact u7 hm0 l f _ _ (W' a) hdp.1 (inv.set hr' hkn) (h2 a ha) hB' (h3 a ha)
    · subst hj
      refine ⟨hkn2, ?_⟩
      unfold qB
      simp only [ho']
      refine .inr ⟨hg', α', ok', W'', V', h1', h2', fun a ha => ?_⟩
      rw [← L1]
      exact u7 hm0 u f _ _ (W'' a) hdp.2 (inv.set hr2 hkn2) (h2' a ha) hB2 (h3' a ha)
theorem AX3 {id : Nat} {l : List Oper} {Q : Exit → E0 → Prop} {env : List (Nat × AV)} {own : List Own} (base : List Own) (m : Nat) (ord : OT) (hm : P.follows .mixedOrders = true) (hB : treeZ .any l.toArray m ord = true) (hd : dstOk n l = true) (hb : k6 base own)
  (h : BT P G n (k6 base) l.toArray ord env own (fun env' W => H8 P G n l.toArray (l.drop m) ⟨W, env'⟩ (Q .normal))) : AWP P G n (.region id l.toArray true) Q ⟨own, env⟩ := fun w0 R0 R a w ⟨h1, h2, h3, h4⟩ => by
 simp only [treeZ, Bool.and_eq_true, decide_eq_true_eq] at hB
 obtain ⟨⟨hm0, hdp⟩, hlex⟩ := hB
 have hn' : m = l.length := by simpa using hm0
 have hdl : (l.drop m).length = l.toArray.size - m := by simp
 have inv0 : HeadInv .any l.toArray m (Array.replicate l.toArray.size false) :=
  ⟨by simp, fun j oj _ hl => qz53, fun t _ ht => getD_in (by simpa using ht) (getD_replicate_false _ _)⟩
 have H := u7 (g := l.toArray.size - m) hm0 ord m _ env own hdp inv0 hb hlex h
 refine wp_region_any hm ?_
 have := Z9 (w0 := w0) (R0 := R0) (R00 := R) (g := l.toArray.size - m) (Q' := fun e a' w' => ∃ s' R', Q e s' ∧ E9 R R' ∧ St G n w0 R0 s' R' a' w') (fun i o ho d e => n4 hd i o (by simpa using ho) d e) (fun listed E W R' a' w' g1 g2 g3 g4 g5 hL => by
  obtain ⟨hL1, env', rfl, hL2⟩ := hL
  have := wpAny_of_seq (P := P) (md := .any) (Q' := fun e a' w' => ∃ s' R', Q e s' ∧ E9 R R' ∧ St G n w0 R0 s' R' a' w') (l.drop m) m listed a' w' (fun j => by simp [List.getElem?_drop]) qz84
   (T6 (R00 := R) (K := Q .normal) (fun s' R' a w q r1 r2 => ⟨s', R', q, r1, r2⟩) _ (⟨W, env'⟩ : E0) R' a' w' g1 ⟨g2, g3, g4, g5⟩ hL2)
  rwa [hdl] at this) _ _ _ own R a _ (E9.refl _) (l5 h1) h2 h3 h4 H
 rw [show m + (l.toArray.size - m) = l.toArray.size by omega] at this
 exact this
theorem P6 {ops : Array Oper} {E : F3} {x : AV} (h : OpW P G n own o E x) : OpE P G n own ops o E (fun _ : Unit => True) (fun _ => own) (fun _ => x) :=
  fun w0 R0 R a w h1 h2 h3 => Oper.wp_mono2 (fun a' w' ⟨v, R', e1, e2, e3, e4⟩ => ⟨(), v, R', trivial, e1, e2, e3, e4⟩) (fun _ _ _ h => h) (h w0 R0 R a w h1 h2 fun t ht => h3 t (Z6 ht))
end
end Go.AV
namespace Go.AV
open Go
inductive OT3 where
  | nil
  | pure (i : Nat) (t : OT3)
  | e1 (i : Nat) (t : OT3)
  | e2 (i : Nat) (t : OT3) (j : Nat) (u : OT3)
  | e3 (i : Nat) (t : OT3) (j : Nat) (u : OT3) (k : Nat) (v : OT3)
def OT3.deep : OT3 → Nat → Bool
  | .nil, 0 => true
  | .pure _ t, f + 1 => t.deep f
  | .e1 _ t, f + 1 => t.deep f
  | .e2 _ t _ u, f + 1 => t.deep f && u.deep f
  | .e3 _ t _ u _ v, f + 1 => (t.deep f && u.deep f) && v.deep f
  | _, _ => false
def o0 (md : Region.Mode) (ops : Array Oper) (g m : Nat) : OT3 → Array Bool → Bool
  | .nil, listed => Region.seqB md ops g m listed
  | .pure i r, listed => (Region.ready md ops listed).contains i && Region.free md ops listed i && Nat.blt i m && o0 md ops g m r (listed.setIfInBounds i true)
  | .e1 i r, listed => decide (Region.ready md ops listed = [i]) && Nat.blt i m && o0 md ops g m r (listed.setIfInBounds i true)
  | .e2 i r j u, listed => decide (Region.ready md ops listed = [i, j]) && Nat.blt i m && Nat.blt j m && o0 md ops g m r (listed.setIfInBounds i true) && o0 md ops g m u (listed.setIfInBounds j true)
  | .e3 i r j u k v, listed => decide (Region.ready md ops listed = [i, j, k]) && Nat.blt i m && Nat.blt j m && Nat.blt k m && o0 md ops g m r (listed.setIfInBounds i true) && o0 md ops g m u (listed.setIfInBounds j true) && o0 md ops g m v (listed.setIfInBounds k true)
def treeB3 (md : Region.Mode) (ops : Array Oper) (m : Nat) (ord : OT3) : Bool :=
  decide (m < ops.size) && ord.deep m && Region.sinkB md ops m && Region.chainB md ops m && o0 md ops (ops.size - m) m ord (Array.replicate ops.size false)
section
variable {P : Program} {G : Nat → Prop} {n : Nat}
def BT3 (P : Program) (G : Nat → Prop) (n : Nat) (Inv : List Own → Prop) (ops : Array Oper) : OT3 → List (Nat × AV) → List Own → (List (Nat × AV) → List Own → Prop) → Prop
  | .nil, env, W, K => K env W
  | .pure i r, env, W, K => ∃ o, ops[i]? = some o ∧ ∃ x, (∀ W', Inv W' → OpA P G n W' ops o (getv · env) x) ∧ BT3 P G n Inv ops r (putv o.dst x env) W K
  | .e1 i r, env, W, K => g6 P G n Inv ops i env W fun env' W' => BT3 P G n Inv ops r env' W' K
  | .e2 i r j u, env, W, K => (g6 P G n Inv ops i env W fun env' W' => BT3 P G n Inv ops r env' W' K) ∧ g6 P G n Inv ops j env W fun env' W' => BT3 P G n Inv ops u env' W' K
  | .e3 i r j u k v, env, W, K => (g6 P G n Inv ops i env W fun env' W' => BT3 P G n Inv ops r env' W' K) ∧ (g6 P G n Inv ops j env W fun env' W' => BT3 P G n Inv ops u env' W' K) ∧ g6 P G n Inv ops k env W fun env' W' => BT3 P G n Inv ops v env' W' K
theorem a7 {Inv : List Own → Prop} {md : Region.Mode} {ops : Array Oper} {m g : Nat} {K : List (Nat × AV) → List Own → Prop} (hs : Region.sinkB md ops m = true) (hc : Region.chainB md ops m = true) (hn : m < ops.size) :
    ∀ (l : OT3) (f : Nat) (listed : Array Bool) (env : List (Nat × AV)) (W : List Own), l.deep f = true → HeadInv md ops m listed → Inv W →
    o0 md ops g m l listed = true → BT3 P G n Inv ops l env W K →
    wpAnyB P G n Inv md ops m (fun listed' E W => Region.seqB md ops g m listed' = true ∧ ∃ env', E = (getv · env') ∧ K env' W) f listed (getv · env) W
  | .nil, 0, listed, env, W, _, _, _, hB, h => ⟨hB, env, rfl, h⟩
  | .nil, _ + 1, _, _, _, hdp, _, _, _, _ => by cases hdp
  | .pure _ _, 0, _, _, _, hdp, _, _, _, _ => by cases hdp
  | .e1 _ _, 0, _, _, _, hdp, _, _, _, _ => by cases hdp
  | .e2 _ _ _ _, 0, _, _, _, hdp, _, _, _, _ => by cases hdp
  | .e3 _ _ _ _ _ _, 0, _, _, _, hdp, _, _, _, _ => by cases hdp
  | .pure i l, f + 1, listed, env, W, hdp, inv, hW, hB, h => by
    simp only [o0, Bool.and_eq_true] at hB
    obtain ⟨⟨⟨hr, hf⟩, hlt⟩, hB'⟩ := hB
    have hkn : i < m := Nat.blt_eq.mp hlt
    have hr' : i ∈ Region.ready md ops listed := by simpa using hr
    obtain ⟨o, ho, x, hx, hK⟩ := h
    refine AE9 ho hs hc hn hkn (fun listed' E W hL => seqB_ready hL.1) f listed _ W inv hW (Region.free_spec ho hf) hr' hx ?_
    rw [← L1]
    exact a7 hs hc hn l f _ _ W hdp (inv.set hr' hkn) hW hB' hK
  | .e1 i l, f + 1, listed, env, W, hdp, inv, hW, hB, h => by
    simp only [o0, Bool.and_eq_true, decide_eq_true_eq] at hB
    obtain ⟨⟨hr, hlt⟩, hB'⟩ := hB
    have hkn : i < m := Nat.blt_eq.mp hlt
    have hr' : i ∈ Region.ready md ops listed := by rw [hr]; simp
    obtain ⟨o, ho, hg, α, ok, W', V, h1, h2, h3⟩ := h
    refine ⟨fun h0 => AP2, fun j hj => ?_⟩
    rw [hr] at hj
    have : j = i := by simpa using hj
    subst this
    refine ⟨hkn, ?_⟩
    unfold qB
    simp only [ho]
    refine .inr ⟨hg, α, ok, W', V, h1, h2, fun a ha => ?_⟩
    rw [← L1]
    exact a7 hs hc hn l f _ _ (W' a) hdp (inv.set hr' hkn) (h2 a ha) hB' (h3 a ha)
  | .e2 i l k u, f + 1, listed, env, W, hdp, inv, hW, hB, h => by
    simp only [o0, Bool.and_eq_true, decide_eq_true_eq] at hB
    obtain ⟨⟨⟨⟨hr, hlt⟩, hlt2⟩, hB'⟩, hB2⟩ := hB
    simp only [OT3.deep, Bool.and_eq_true] at hdp
    have hkn : i < m := Nat.blt_eq.mp hlt
    have hkn2 : k < m := Nat.blt_eq.mp hlt2
    have hr' : i ∈ Region.ready md ops listed := by rw [hr]; simp
    have hr2 : k ∈ Region.ready md ops listed := by rw [hr]; simp
    obtain ⟨⟨o, ho, hg, α, ok, W', V, h1, h2, h3⟩, ⟨o', ho', hg', α', ok', W'', V', h1', h2', h3'⟩⟩ := h
    refine ⟨fun h0 => AP2, fun j hj => ?_⟩
    rw [hr] at hj
    simp only [List.mem_cons, List.not_mem_nil, or_false] at hj
    rcases hj with hj | hj
    · subst hj
      refine ⟨hkn, ?_⟩
      unfold qB
      simp only [ho]
      refine .inr ⟨hg, α, ok, W', V, h1, h2, fun a ha => ?_⟩
      rw [← L1]
      exact a7 hs hc hn l f _ _ (W' a) hdp.1 (inv.set hr' hkn) (h2 a ha) hB' (h3 a ha)
    · subst hj
      refine ⟨hkn2, ?_⟩
      unfold qB
      simp only [ho']
      refine .inr ⟨hg', α', ok', W'', V', h1', h2', fun a ha => ?_⟩
      rw [← L1]
      exact a7 hs hc hn u f _ _ (W'' a) hdp.2 (inv.set hr2 hkn2) (h2' a ha) hB2 (h3' a ha)
  | .e3 i l k u q v, f + 1, listed, env, W, hdp, inv, hW, hB, h => by
    simp only [o0, Bool.and_eq_true, decide_eq_true_eq] at hB
    obtain ⟨⟨⟨⟨⟨⟨hr, hlt⟩, hlt2⟩, hlt3⟩, hB'⟩, hB2⟩, hB3⟩ := hB
    simp only [OT3.deep, Bool.and_eq_true] at hdp
    have hkn : i < m := Nat.blt_eq.mp hlt
    have hkn2 : k < m := Nat.blt_eq.mp hlt2
    have hkn3 : q < m := Nat.blt_eq.mp hlt3
    have hr' : i ∈ Region.ready md ops listed := by rw [hr]; simp
    have hr2 : k ∈ Region.ready md ops listed := by rw [hr]; simp
    have hr3 : q ∈ Region.ready md ops listed := by rw [hr]; simp
    obtain ⟨⟨o, ho, hg, α, ok, W', V, h1, h2, h3⟩, ⟨o', ho', hg', α', ok', W'', V', h1', h2', h3'⟩, ⟨o3, ho3, hg3, α3, ok3, W3, V3, h13, h23, h33⟩⟩ := h
    refine ⟨fun h0 => AP2, fun j hj => ?_⟩
    rw [hr] at hj
    simp only [List.mem_cons, List.not_mem_nil, or_false] at hj
    rcases hj with hj | hj | hj
    · subst hj
      refine ⟨hkn, ?_⟩
      unfold qB
      simp only [ho]
      refine .inr ⟨hg, α, ok, W', V, h1, h2, fun a ha => ?_⟩
      rw [← L1]
      exact a7 hs hc hn l f _ _ (W' a) hdp.1.1 (inv.set hr' hkn) (h2 a ha) hB' (h3 a ha)
    · subst hj
      refine ⟨hkn2, ?_⟩
      unfold qB
      simp only [ho']
      refine .inr ⟨hg', α', ok', W'', V', h1', h2', fun a ha => ?_⟩
      rw [← L1]
      exact a7 hs hc hn u f _ _ (W'' a) hdp.1.2 (inv.set hr2 hkn2) (h2' a ha) hB2 (h3' a ha)
    · subst hj
      refine ⟨hkn3, ?_⟩
      unfold qB
      simp only [ho3]
      refine .inr ⟨hg3, α3, ok3, W3, V3, h13, h23, fun a ha => ?_⟩
      rw [← L1]
      exact a7 hs hc hn v f _ _ (W3 a) hdp.2 (inv.set hr3 hkn3) (h23 a ha) hB3 (h33 a ha)
theorem AF1 {id : Nat} {l : List Oper} {Q : Exit → E0 → Prop} {env : List (Nat × AV)} {own : List Own} (base : List Own) (m : Nat) (ord : OT3) (hm : P.follows .mixedOrders = true) (hB : treeB3 .any l.toArray m ord = true) (hd : dstOk n l = true) (hb : k6 base own)
  (h : BT3 P G n (k6 base) l.toArray ord env own (fun env' W => H8 P G n l.toArray (l.drop m) ⟨W, env'⟩ (Q .normal))) : AWP P G n (.region id l.toArray true) Q ⟨own, env⟩ := fun w0 R0 R a w ⟨h1, h2, h3, h4⟩ => by
 simp only [treeB3, Bool.and_eq_true, decide_eq_true_eq] at hB
 obtain ⟨⟨⟨⟨hn, hdp⟩, hs⟩, hc⟩, hlex⟩ := hB
 have hn' : m < l.length := by simpa using hn
 have hdl : (l.drop m).length = l.toArray.size - m := by simp
 have inv0 : HeadInv .any l.toArray m (Array.replicate l.toArray.size false) :=
  ⟨by simp, fun j oj _ hl => qz53, fun t _ ht => getD_in (by simpa using ht) (getD_replicate_false _ _)⟩
 have H := a7 (g := l.toArray.size - m) hs hc hn ord m _ env own hdp inv0 hb hlex h
 refine wp_region_any hm ?_
 have := Z9 (w0 := w0) (R0 := R0) (R00 := R) (g := l.toArray.size - m) (Q' := fun e a' w' => ∃ s' R', Q e s' ∧ E9 R R' ∧ St G n w0 R0 s' R' a' w') (fun i o ho d e => n4 hd i o (by simpa using ho) d e) (fun listed E W R' a' w' g1 g2 g3 g4 g5 hL => by
  obtain ⟨hL1, env', rfl, hL2⟩ := hL
  have := wpAny_of_seq (P := P) (md := .any) (Q' := fun e a' w' => ∃ s' R', Q e s' ∧ E9 R R' ∧ St G n w0 R0 s' R' a' w') (l.drop m) m listed a' w' (fun j => by simp [List.getElem?_drop]) qz84
   (T6 (R00 := R) (K := Q .normal) (fun s' R' a w q r1 r2 => ⟨s', R', q, r1, r2⟩) _ (⟨W, env'⟩ : E0) R' a' w' g1 ⟨g2, g3, g4, g5⟩ hL2)
  rwa [hdl] at this) _ _ _ own R a _ (E9.refl _) (l5 h1) h2 h3 h4 H
 rw [show m + (l.toArray.size - m) = l.toArray.size by omega] at this
 exact this
section
variable {ops : Array Oper} {i j : Nat} {o : Oper} {r u : OT3} {env : List (Nat × AV)} {W : List Own} {base : List Own} {K : List (Nat × AV) → List Own → Prop} {d : Nat} {x : AV}
theorem bt3_nil {Inv : List Own → Prop} (h : K env W) : BT3 P G n Inv ops .nil env W K := h
theorem I1 (ho : ops[i]? = some o) (hg : o.guard = none) (hd : o.dst = some d) (h : ∀ ext, OpW P G n (base ++ ext) o (getv · env) x) (k : BT3 P G n (k6 base) ops r ((d, x) :: env) W K) : BT3 P G n (k6 base) ops (.pure i r) env W K :=
  ⟨o, ho, x, fun W' ⟨ext, e⟩ => by subst e; exact AB4 hg (h ext), by rw [hd]; exact k⟩
theorem bt3_e1 {Inv : List Own → Prop} (h : g6 P G n Inv ops i env W fun env' W' => BT3 P G n Inv ops r env' W' K) : BT3 P G n Inv ops (.e1 i r) env W K := h
theorem AZ2 {Inv : List Own → Prop} {q : Nat} {v : OT3} (h : g6 P G n Inv ops i env W fun env' W' => BT3 P G n Inv ops r env' W' K) (k : g6 P G n Inv ops j env W fun env' W' => BT3 P G n Inv ops u env' W' K) (k3 : g6 P G n Inv ops q env W fun env' W' => BT3 P G n Inv ops v env' W' K) : BT3 P G n Inv ops (.e3 i r j u q v) env W K := ⟨h, k, k3⟩
theorem a8 {Inv : List Own → Prop} (h : g6 P G n Inv ops i env W fun env' W' => BT3 P G n Inv ops r env' W' K) (k : g6 P G n Inv ops j env W fun env' W' => BT3 P G n Inv ops u env' W' K) : BT3 P G n Inv ops (.e2 i r j u) env W K := ⟨h, k⟩
end
end
section
variable {P : Program} {G : Nat → Prop} {n : Nat}
end
section
variable {P : Program} {G : Nat → Prop} {n : Nat} {own : List Own} {o : Oper}
theorem P7 {E : F3} {e : TypeId} {p : Operand} {k sz : Nat} {v : Value} {es : List (List AV)} {ys : List AV} (i : Nat) (ho : o.op = .nilCheck p) (hp : Ev E p (AV.is (elemPtr v (k * sz)))) (hi : own[i]? = some (.arr v e sz es)) (hy : es[k]? = some ys) (h0 : Nat.blt 0 sz = true) : OpW P G n own o E (AV.is (elemPtr v (k * sz))) := X9 fun w0 R0 R a w hc he => by
  have e1 : a.eval p = _ := D7 hp qz9 he
  have hok := hc.owned _ (D9 hi)
  have hu := hok.2.1
  have hyl : ys.length = sz := hu ys (D9 hy)
  have hb1 := Nat.blt_eq.mp h0
  obtain ⟨g, u0, h1, _⟩ := r7 hok (U6 hu hy (List.getElem?_eq_getElem (show 0 < ys.length by omega)))
  rw [Nat.add_zero] at h1
  rw [h1] at e1
  refine ⟨_, ?_, show elemPtr v (k * sz) = _ from rfl⟩
  rw [h1]
  simp only [execOp, ho, e1, Sem.run_pure]
end
end Go.AV
namespace Go.AV
def AV.wt (T : World → Prop) (x : AV) : AV := ⟨fun R v => x.den R v ∧ ∀ w' : World, RLe R w' → T w', fun h ⟨a, b⟩ => ⟨x.mono h a, fun w' hw => b w' fun b o e => hw b o (h b o e)⟩⟩
section
variable {P : Program} {G : Nat → Prop} {n : Nat} {own : List Own} {o : Oper} {E : F3}
theorem Ak6 {p : Operand} {x : AV} {T T' : World → Prop} (i : Nat) (hi : own[i]? = some (.tab T')) (hT : ∀ w, T' w → T w) (h : EvB own E p x) : EvB own E p (AV.wt T x) := fun G w0 R0 R a w hc he =>
  ⟨h G w0 R0 R a w hc he, fun w' hw' => hT w' ((hc.owned _ (D9 hi)) w' fun b o e => hw' b o (Y2 hc b o e))⟩
theorem core_tab {w0 w : World} {R0 R : D6} {T : World → Prop} (h : H7 G w0 R0 own R w) (ht : ∀ w' : World, RLe R w' → T w') : H7 G w0 R0 (.tab T :: own) R w where
  os := h.os
  tape := h.tape
  output := h.output
  size := h.size
  block := h.block
  rle := h.rle
  rold := h.rold
  owned o ho := by
    rcases List.mem_cons.1 ho with rfl | ho
    · exact ht
    · exact h.owned o ho
  fresh o ho b hb := by
    rcases List.mem_cons.1 ho with rfl | ho
    · cases hb
    · exact h.fresh o ho b hb
  sep := by
    rw [List.filterMap_cons]
    exact h.sep
theorem AK5 {env : List (Nat × AV)} {t : Nat} {x : AV} {T : World → Prop} (ht : getv t env = some (AV.wt T x)) : Le G n ⟨own, env⟩ ⟨.tab T :: own, (t, x) :: env⟩ := fun w0 R0 R a w ⟨h1, h2, h3⟩ => by
  have hx := h2 t _ ht
  refine ⟨R, E9.refl _, core_tab h1 hx.2, fun k z hz => ?_, h3⟩
  simp only [getv] at hz
  by_cases hk : t = k
  · subst hk
    simp [Nat.beq_refl] at hz
    rw [← hz]
    exact hx.1
  · rw [i7 hk, cond_false] at hz
    exact h2 k z hz
theorem Ak7 {f : FuncId} {x y : AV} {T : World → Prop} (h : ∀ (R : D6) (w : World) (v : Value), RLe R w → x.den R v → T w → Calls P f #[v] w fun e w' => ∃ u, e = .returned u ∧ y.den R u ∧ Go.RowKit.Below w.heap.size w w') : D3 P f [AV.wt T x] y := fun R w vs hr hd => by
  match vs, hd.1 with
  | [v], _ =>
    have h1 := hd.2 0 v _ rfl rfl
    refine (h R w v hr h1.1 (h1.2 w hr)).mono fun e w' ⟨u, h2, h3, h4⟩ => ⟨u, R, h2, h3, fun b o hb => ?_, fun _ _ => rfl, h4⟩
    have hb2 := hr b o hb
    rw [h4.block b (Array.getElem?_eq_some_iff.1 hb2).1]; exact hb2
theorem Ap7 (w : World) (k : Nat) (os : Array Obj) : Go.RowKit.Below w.heap.size w (Go.Sort.grow (w.drewN k) os) :=
  ⟨rfl, rfl, rfl, by rw [Go.Sort.size_grow]; exact Nat.le_add_right _ _, fun b hb => Go.Sort.heap_grow_old (w.drewN k) os hb⟩
theorem Av5 {P : Program} {W w' : World} {name : String} {k : IntKind} {zs : List Int} (h : Lib.TabIs P W name k zs) (hw : RLe (heapR W) w') : Lib.TabIs P w' name k zs := by
  unfold Lib.TabIs World.var? at h ⊢
  cases hg : P.globalNamed name with
  | none => rw [hg] at h; cases h
  | some g =>
    rw [hg] at h
    simp only [Option.bind_some] at h ⊢
    cases ho : W.heap[g]? with
    | none => rw [ho] at h; cases h
    | some o =>
      rw [ho] at h
      rw [hw g o ho]
      exact h
end
end Go.AV
namespace Go.AV
open Go.RowKit (Below)
def AV.errB (b : Bool) : AV := ⟨fun _ v => (b = false → v = .nilIface) ∧ (b = true → ∃ t p, v = .iface t p), fun _ h => h⟩
section
variable {P : Program} {G : Nat → Prop} {n : Nat} {own : List Own} {o : Oper} {E : F3}
theorem w_errneq {b : Bool} {t : TypeId} {p : Operand} {ty : TypeId} (ho : o.op = .binOp .neq t p (.const .nilIface) ty) (ht : P.underlying t = some (.interface (P.methodsAt t))) (hp : Ev E p (AV.errB b)) : OpW P G n own o E (AV.bool b) := G0 fun R a w _ he => by
  have h1 : (b = false → a.eval p = .nilIface) ∧ (b = true → ∃ t p', a.eval p = .iface t p') := D7 hp qz9 he
  have h3 : a.eval (.const .nilIface) = .nilIface := rfl
  cases b with
  | false =>
    have h2 := h1.1 rfl
    exact ⟨.bool false, by simp only [execOp, ho, h2, h3, eqGuard_nil_constR, Sem.run_bind, Sem.run_pure, Result.andThen_ok, run_neq_nil_nil w t ht], rfl⟩
  | true =>
    obtain ⟨u, x, h2⟩ := h1.2 rfl
    exact ⟨.bool true, by simp only [execOp, ho, h2, h3, eqGuard_at_iface, Sem.run_bind, Sem.run_pure, Result.andThen_ok, run_neq_held_nil w t u x ht], rfl⟩
theorem y8 {f : FuncId} {args : Array Operand} {tys : Array TypeId} {ps : List Operand} {x : AV} {xs : List AV} {y : AV} {T T' : World → Prop} (i : Nat) (hi : own[i]? = some (.tab T')) (ho : o.op = .call { callee := .value (.func f), args := args, argTypes := tys }) (hc : ∀ (vs : Array Value) (w : World), (callFunc f vs).run P w = .ok (.enter f vs) w)
    (hps : args.toList = ps) (hs : D3 P f (AV.wt T x :: xs) y) (he : EvL E ps (x :: xs)) (hT : ∀ w, T' w → T w) : OpW P G n own o E y := fun w0 R0 R a w hcore _ hen => by
  have hd := y5 hen he fun p hp => by simp [ho, Op.operands, Call.operands]; right; rw [← hps] at hp; exact Array.mem_toList_iff.1 hp
  have htab : ∀ w' : World, RLe R w' → T w' := fun w' hw' => hT w' ((hcore.owned _ (D9 hi)) w' hw')
  have hd2 : O9 R (ps.map a.eval) (AV.wt T x :: xs) := ⟨hd.1, fun j v z hv hz => by
    cases j with
    | zero =>
      simp at hz; subst hz
      exact ⟨hd.2 0 v x hv rfl, htab⟩
    | succ j => exact hd.2 (j + 1) v z hv hz⟩
  have hrun : (execOp a.eval o).run P w = .ok (.enter f (ps.map a.eval).toArray) w := by
    have hargs : args.map a.eval = (ps.map a.eval).toArray := by rw [← hps]; cases args; simp
    simp only [execOp, ho, resolve, hargs, show a.eval (.func f) = .func (.func f) #[] #[] from rfl]
    simp [Deferred.ofValue, invoke, hc]
  unfold Oper.wp
  rw [hrun, Oper.upon_enter]
  refine (hs R w _ hcore.rle hd2).mono fun e w' ⟨v, R', e1, e2, e3, e4, e5⟩ => ?_
  subst e1
  exact ⟨v, R', rfl, hcore.step e5 e3 e4, f1 hcore.rle e4, e2⟩
theorem Av6 (w : World) : Below w.heap.size w w := ⟨rfl, rfl, rfl, Nat.le_refl _, fun _ _ => rfl⟩
theorem Ap8 (w : World) (e : TypeId) (t : ByteArray) : Below w.heap.size w (Lib.bytesWorld w e t) :=
  ⟨rfl, rfl, rfl, by rw [Lib.bytesWorld_size]; exact Nat.le_succ _, fun b hb => Lib.bytesWorld_at_old w e t b hb⟩
theorem handed_shaped {H : Type} {enc : TypeId × Value → H} {a : Assume} {C : Checked} {os : Os} {f : FuncId} {fn : Func} {s : ChangeSpec} {conds : List PathCond} {apart fresh handsOn again : Bool} {X : World → Array Value → Prop}
    (hX : ∀ (w w' : World) (args : Array Value), w.heap = w'.heap → X w args → X w' args)
    (own : ownKnob C.prog.godebug = none) (started : os.Started) (noInit : C.prog.inits.idxOf? f = none) (hfn : C.prog.funcs[f]? = some fn)
    (witness : ∃ (w : World) (tape : Tape) (i : Input), w.os = os ∧ (w.forCall tape i).Shaped C.prog ∧ i.vars = [] ∧ Input.okWide C.prog (w.forCall tape i) .any w.heap.size f i ∧
      ((s.pre enc C.prog fn conds apart (w.forCall tape i).memory i.args ∧ X (w.forCall tape i).memory i.args) ∧ sizedMet enc C.prog fn (OpenSpec.ofChange s) apart (w.forCall tape i).memory i.args) ∧ a.holds C.prog (lone (Frame.enter C.prog f i.args .normal) [] (w.forCall tape i)))
    (contract : ∀ (W : World) (base : Nat) (args : Array Value) (ds gs : List (DataW H)) (before : List MemPlace),
      (∀ (j : Nat) t v, fn.params[j]? = some t → args[j]? = some v → Value.okWide C.prog W .any base t v) →
      DataW.Whole enc C.prog fn.params.toList s.vars apart W args.toList ds gs before →
      W.ShapedOpen C.prog →
      (DataW.weightsEach C.prog (fn.params.toList ++ s.plain.varTypes C.prog) (ds ++ gs)).all (· ≤ reachBytes) = true → X W args →
      a.holds C.prog (lone (Frame.enter C.prog f args .normal) [] W) →
      Calls C.prog f args W fun e W' => ∃ v, e = .returned v ∧ s.post enc C.prog fn apart fresh handsOn again W args v W') :
    ReturnsInHanded a C os f .any (fun w args => (s.pre enc C.prog fn conds apart w args ∧ X w args) ∧ sizedMet enc C.prog fn (OpenSpec.ofChange s) apart w args) (s.post enc C.prog fn apart fresh handsOn again) := by
  refine returnsInHanded_of_calls own started noInit witness ?_
  intro w tape i _ hsh _ hok hpre hholds
  obtain ⟨_, _, _, fn', hfn', _, _, _, _, hval⟩ := hok
  have e : fn' = fn := Option.some.inj (hfn'.symm.trans hfn)
  subst e
  obtain ⟨⟨⟨ds, gs, before, hw, hc⟩, hx⟩, hz⟩ := hpre
  have hw' := DataW.Whole.of_heap (w' := w.forCall tape i) B6 hw
  refine (contract (w.forCall tape i) w.heap.size i.args ds gs before hval hw' hsh (hz.weights hw) (hX _ _ _ B6 hx) hholds).mono fun e W' ⟨v, he, hp⟩ => ?_
  subst he
  exact ChangeSpec.post_blind hp
theorem Ak8 {P : Program} {W w' : World} {name : String} {vs : Array Value} (h : W.var? P name = some vs) (hw : RLe (heapR W) w') : w'.var? P name = some vs := by
  unfold World.var? at h ⊢
  cases hg : P.globalNamed name with
  | none => rw [hg] at h; cases h
  | some g =>
    rw [hg] at h
    simp only [Option.bind_some] at h ⊢
    cases ho : W.heap[g]? with
    | none => rw [ho] at h; cases h
    | some o =>
      rw [ho] at h
      rw [hw g o ho]
      exact h
end
end Go.AV
namespace Go.AV
theorem Q7 {α β : Type} {f : α → β} {l : List α} {i : Nat} {x : α} (h : l[i]? = some x) : (l.map f)[i]? = some (f x) := by rw [List.getElem?_map, h]; rfl
theorem E7 {α : Type} {l : List α} {i : Nat} {x y : α} (h : l[i]? = some y) : (l.set i x)[i]? = some x := List.getElem?_set_self (List.getElem?_eq_some_iff.1 h).1
section
variable {P : Program} {G : Nat → Prop} {n : Nat} {own : List Own} {o : Oper} {E : F3}
end
section
variable {P : Program} {G : Nat → Prop} {n : Nat} {own : List Own} {o : Oper}
def AS2 (sel : List Own) : Own → Own → Prop
  | .box b t cs, .box b' t' cs' => b = b' ∧ t = t' ∧ d3 sel cs cs'
  | .arr v t sz es, .arr v' t' sz' es' => v = v' ∧ t = t' ∧ sz = sz' ∧ Ab3 sel es es'
  | .frz b t cs, .frz b' t' cs' => b = b' ∧ t = t' ∧ d3 sel cs cs'
  | .tab T, .tab T' => T = T'
  | _, _ => False
def AI7 (sel own own' : List Own) : Prop := own.length = own'.length ∧ ∀ (i : Nat) (q q' : Own), own[i]? = some q → own'[i]? = some q' → AS2 sel q q'
theorem AQ3 {sel : List Own} : AI7 sel [] [] := ⟨rfl, fun i q q' h => by simp at h⟩
theorem AK6 {sel a b : List Own} {q q' : Own} (h : AS2 sel q q') (k : AI7 sel a b) : AI7 sel (q :: a) (q' :: b) := ⟨by simp [k.1], fun i x y hx hy => by
  cases i with
  | zero => simp at hx hy; subst hx; subst hy; exact h
  | succ i => exact k.2 i x y (by simpa using hx) (by simpa using hy)⟩
theorem oc_blk {sel : List Own} {q q' : Own} (h : AS2 sel q q') : Own.blk q = Own.blk q' := by
  cases q <;> cases q' <;> unfold AS2 at h
  · exact congrArg some h.1
  · exact h.elim
  · exact h.elim
  · exact h.elim
  · exact h.elim
  · exact congrArg Value.ownBlock h.1
  · exact h.elim
  · exact h.elim
  · exact h.elim
  · exact h.elim
  · exact congrArg some h.1
  · exact h.elim
  · exact h.elim
  · exact h.elim
  · exact h.elim
  · rfl
theorem oc_map {sel a b : List Own} (h : AI7 sel a b) : a.map Own.blk = b.map Own.blk := by
  refine List.ext_getElem? fun i => ?_
  rw [List.getElem?_map, List.getElem?_map]
  cases ha : a[i]? with
  | none =>
    have : b[i]? = none := by rw [List.getElem?_eq_none_iff] at ha ⊢; rw [← h.1]; exact ha
    rw [this]
  | some q =>
    have hi : i < b.length := by rw [← h.1]; exact (List.getElem?_eq_some_iff.1 ha).1
    rw [List.getElem?_eq_getElem hi]
    exact congrArg some (oc_blk (h.2 i q _ ha (List.getElem?_eq_getElem hi)))
theorem oc_fm {sel a b : List Own} (h : AI7 sel a b) : a.filterMap Own.blk = b.filterMap Own.blk := by
  have := congrArg (List.filterMap id) (oc_map h)
  rwa [List.filterMap_map, List.filterMap_map] at this
theorem AQ4 {sel : List Own} {xs ys : List AV} {w0 : World} {R0 R : D6} {w : World} {vs : List Value} (hc : H7 G w0 R0 sel R w) (h : O8 R vs xs) (k : d3 sel xs ys) : O8 (lend sel w R) vs ys :=
  ⟨h.1.trans k.1, fun i v y hv hy => by
    have hi : i < xs.length := by rw [k.1]; exact (List.getElem?_eq_some_iff.1 hy).1
    have hx := List.getElem?_eq_getElem hi
    obtain ⟨h1, h2⟩ := h.2 i v _ hv hx
    exact ⟨k.2 i _ y hx hy G w0 R0 R w v hc h1, h2⟩⟩
theorem AZ3 {sel rest rest' : List Own} {w0 : World} {R0 R : D6} {w : World} (h : H7 G w0 R0 (sel ++ rest) R w) (hG : ∀ b, G b → b ∈ rest.filterMap Own.blk) (hl : AI7 sel rest rest') : H7 G w0 R0 rest' (lend sel w R) w := by
  have hb := AN1 h hG
  have hs := P0 h
  refine ⟨hb.os, hb.tape, hb.output, hb.size, hb.block, hb.rle, hb.rold, fun q' hq' => ?_, fun q' hq' b hqb => ?_, ?_⟩
  · obtain ⟨i, hi⟩ := List.getElem?_of_mem hq'
    have hir : i < rest.length := by rw [hl.1]; exact (List.getElem?_eq_some_iff.1 hi).1
    have hr := List.getElem?_eq_getElem hir
    have hm := D9 hr
    have hoc := hl.2 i _ q' hr hi
    have k1 := hb.owned _ hm
    have k2 := h.owned _ (List.mem_append_right _ hm)
    revert hoc k1 k2
    generalize rest[i] = q
    intro hoc k1 k2
    cases q <;> cases q' <;> unfold AS2 at hoc
    · obtain ⟨rfl, rfl, hc⟩ := hoc
      obtain ⟨_, vs, hv, hd⟩ := k2
      exact ⟨k1.1, vs, hv, AQ4 hs hd hc⟩
    · exact hoc.elim
    · exact hoc.elim
    · exact hoc.elim
    · exact hoc.elim
    · obtain ⟨rfl, rfl, rfl, hc⟩ := hoc
      obtain ⟨_, hlen, xs, hx, hd⟩ := k2
      refine ⟨k1.1, fun e he => ?_, xs, ?_, AQ4 hs hd (Ac6 hc)⟩
      · obtain ⟨j, hj⟩ := List.getElem?_of_mem he
        have hje := List.getElem?_eq_getElem (show j < _ from hc.1.symm ▸ (List.getElem?_eq_some_iff.1 hj).1)
        rw [← (hc.2 j _ e hje hj).1]
        exact hlen _ (D9 hje)
      · rw [← hc.1]; exact hx
    · exact hoc.elim
    · exact hoc.elim
    · exact hoc.elim
    · exact hoc.elim
    · obtain ⟨rfl, rfl, hc⟩ := hoc
      obtain ⟨_, vs, hv, hd⟩ := k2
      exact ⟨k1.1, vs, hv, AQ4 hs hd hc⟩
    · exact hoc.elim
    · exact hoc.elim
    · exact hoc.elim
    · exact hoc.elim
    · exact hoc ▸ k1
  · have hm : (some b) ∈ rest'.map Own.blk := List.mem_map.2 ⟨q', hq', hqb⟩
    rw [← oc_map hl] at hm
    obtain ⟨q, hq, hqb2⟩ := List.mem_map.1 hm
    exact hb.fresh q hq b hqb2
  · rw [← oc_fm hl]; exact hb.sep
theorem p5 {α β : Type} {f : FuncId} {xs : List AV} {inw : List Own} {ok : α → Prop} {O : α → List Own} {V : α → AV} {ok' : β → Prop} {O' : β → List Own} {V' : β → AV} (g : α → β) (S rest : α → List Own) (hs : F0 P f xs inw ok O V)
    (hok : ∀ a, ok a → ok' (g a)) (hV : ∀ a, ok a → c8 (S a) (V a) (V' (g a))) (hp : ∀ a, ok a → (O a).Perm (S a ++ rest a)) (hG : ∀ a, ok a → ∀ b, f8 inw b → b ∈ (rest a).filterMap Own.blk) (hl : ∀ a, ok a → AI7 (S a) (rest a) (O' (g a))) : F0 P f xs inw ok' O' V' := fun R w vs hr hd ho hn =>
  (hs R w vs hr hd ho hn).mono fun e w' ⟨a, v, R', h0, h1, h2, h3⟩ => by
    have hc := T8 h3 (hp a h0)
    exact ⟨g a, v, lend (S a) w' R', hok a h0, h1, hV a h0 _ _ _ R' w' v (P0 hc) h2, AZ3 hc (hG a h0) (hl a h0)⟩
theorem oc_refl {sel : List Own} (q : Own) : AS2 sel q q := by
  cases q with
  | box b t cs => exact ⟨rfl, rfl, X5⟩
  | arr v t sz es => exact ⟨rfl, rfl, rfl, F5⟩
  | frz b t cs => exact ⟨rfl, rfl, X5⟩
  | tab T => exact rfl
theorem oc_set {sel l : List Own} {i : Nat} {q q' : Own} (hi : l[i]? = some q) (hc : AS2 sel q q') : AI7 sel l (l.set i q') := ⟨by simp, fun j x y hx hy => by
  by_cases h : i = j
  · subst h
    rw [List.getElem?_set_self (List.getElem?_eq_some_iff.1 hi).1] at hy
    rw [hi] at hx
    injection hx with hx; injection hy with hy; subst hx; subst hy; exact hc
  · rw [List.getElem?_set_ne h, hx] at hy
    injection hy with hy; subst hy; exact oc_refl _⟩
theorem AX4 {env : List (Nat × AV)} {sel rest : List Own} {q : Own} (is : List Nat) (i : Nat) (q' : Own) (hp : pick own is = (sel, rest)) (hi : rest[i]? = some q) (hc : AS2 sel q q') (hG : ∀ b, G b → b ∈ rest.filterMap Own.blk) : Le G n ⟨own, env⟩ ⟨rest.set i q', env⟩ := fun w0 R0 R a w ⟨h1, h2, h3⟩ => by
  have hk := Z8 h1 hp
  exact ⟨lend sel w R, Y2 (P0 hk), AZ3 hk hG (oc_set hi hc), fun t z hz => z.mono (Y2 (P0 hk)) (h2 t z hz), h3⟩
section
variable {T X : Type} {ocs : T → X → List AV} {cs : T → List AV} {ow : T → X → List Own}
theorem Ag5 {own : List Own} {l : List T} {xs : List X} (hlc : ∀ p x, (∀ o ∈ ow p x, o ∈ own) → d3 own (ocs p x) (cs p)) (hlen : xs.length = l.length) (hm : ∀ o ∈ nin ow l xs, o ∈ own) : Ab3 own (nrows ocs l xs) (l.map cs) := by
  refine ⟨by rw [AH6 hlen, A4], fun j a b ha hb => ?_⟩
  rw [List.getElem?_map] at hb
  cases hp : l[j]? with
  | none => rw [hp] at hb; cases hb
  | some p =>
    rw [hp] at hb
    have hj := (List.getElem?_eq_some_iff.1 hp).1
    obtain ⟨x, hx⟩ : ∃ x, xs[j]? = some x := ⟨_, List.getElem?_eq_getElem qz6⟩
    rw [AH7 hp hx] at ha
    injection ha with ha; injection hb with hb; subst ha; subst hb
    exact hlc p x fun o ho => hm o (nin_mem hp hx o ho)
end
end
section
variable {P : Program} {G : Nat → Prop} {n : Nat} {own : List Own} {o : Oper}
end
end Go.AV
namespace Go.AV
open Go.RowKit (Below)
section
variable {P : Program} {G : Nat → Prop} {n : Nat} {own : List Own} {o : Oper} {E : F3}
def SrcE (own : List Own) (E : F3) (q : Operand) (sz : Nat) (fs : List (List AV)) : Prop :=
  ∀ (G : Nat → Prop) (w0 : World) (R0 R : D6) (a : Act) (w : World), H7 G w0 R0 own R w → (∀ t, q = .tmp t → ∀ y, E t = some y → y.den R (a.tmps.getD t undef)) →
    (∀ f ∈ fs, f.length = sz) ∧ ∃ oa cap vs, a.eval q = .slice oa fs.length cap ∧ (fs ≠ [] → ∃ ad, oa = some ad ∧ (∀ j u, vs[j]? = some u → w.cell? (ad.add j) = some u) ∧ O8 R vs fs.flatten)
theorem S4 {ops : Array Oper} {t e : TypeId} {p q : Operand} {sz by' : Nat} {inf : TypeInfo} {z : Value} {v : Value} {es fs : List (List AV)} (i : Nat) (ho : o.op = .call { callee := .builtin .append, args := #[p, q], argTypes := #[t, t] }) (ht : P.underlying t = some (.slice e)) (hinf : P.info? e = some inf) (hz : inf.zero = some z) (hsz : inf.size = sz) (hby : inf.bytes = by') (hzs : z.cells.size = sz) (hpos : Nat.ble 1 sz = true) (hpos2 : Nat.ble 1 by' = true) (hp : Ev E p (AV.is v)) (hq : SrcE own E q sz fs) (hi : own[i]? = some (.arr v e sz es))
    (hlen : (es.length + fs.length) * by' ≤ 140737488355328) : OpE P G n own ops o E (fun _ : Value => True) (fun v' => own.set i (.arr v' e sz (es ++ fs))) (fun v' => AV.is v') :=
  fun w0 R0 R a w h1 h3 h2 => by
    have e1 : a.eval p = v := AF0 (ops := ops) hp t7 h2
    obtain ⟨hu, oa, c, ns, e2, hcell⟩ := hq G w0 R0 R a w h1 (fun t ht y hy => h2 t (Z6 (by subst ht; exact List.mem_filterMap.2 ⟨.tmp t, by simp [ho, Op.operands, Call.operands], rfl⟩)) y hy)
    obtain ⟨hR, hue, xs, hown, hdc⟩ := h1.owned _ (D9 hi)
    have hb1 := Nat.le_of_ble_eq_true hpos
    have hb2 := Nat.le_of_ble_eq_true hpos2
    have hsum : es.length + fs.length ≤ 140737488355328 := Nat.le_trans (Nat.le_mul_of_pos_right _ hb2) hlen
    have hufs : ∀ x ∈ es ++ fs, x.length = sz := fun x hx => by
      rcases List.mem_append.1 hx with h | h
      · exact hue x h
      · exact hu x h
    by_cases hfs : fs = []
    · subst hfs
      have hrun : ∃ v', (Builtin.append_ #[t, t] o.type #[v, a.eval q]).run P w = .ok v' w ∧ v' = v := by
        refine ⟨v, ?_, rfl⟩
        rw [e2]
        rcases hown.2 with ⟨rfl, hz0⟩ | ⟨g, cap, cur, rfl, _, _, hnc, _⟩
        · cases oa with
          | none => simp [Builtin.append_, run_underlying ht, sizeOf, typeInfo, hinf, Builtin.lenOf, Builtin.firstCells, hz0]
          | some ad => simp [Builtin.append_, run_underlying ht, sizeOf, typeInfo, hinf, Builtin.lenOf, Builtin.firstCells, loadCells, loadCellsFrom, hz0]
        · cases oa with
          | none => simp [Builtin.append_, run_underlying ht, sizeOf, typeInfo, hinf, Builtin.lenOf, Builtin.firstCells, hnc, storeCells]
          | some ad => simp [Builtin.append_, run_underlying ht, sizeOf, typeInfo, hinf, Builtin.lenOf, Builtin.firstCells, loadCells, loadCellsFrom, hnc, storeCells]
      obtain ⟨v', hr, rfl⟩ := hrun
      have hex : (execOp a.eval o).run P w = .ok (.value v') w := by
        simp only [execOp, ho, resolve, invoke, builtin, Sem.run_bind, Sem.run_pure, Result.andThen_ok, List.map_toArray, List.map_cons, List.map_nil, e1, hr]
      unfold Oper.wp
      rw [hex, Oper.upon_value]
      have hset : own.set i (.arr v' e sz (es ++ [])) = own := by
        rw [List.append_nil]
        obtain ⟨hlt, he⟩ := List.getElem?_eq_some_iff.1 hi
        rw [← he]; exact List.set_getElem_self hlt
      exact ⟨v', v', R, trivial, rfl, by show H7 G w0 R0 (own.set i (.arr v' e sz (es ++ []))) R w; rw [hset]; exact h1, E9.refl _, rfl⟩
    · obtain ⟨ad, rfl, hn2, hn3⟩ := hcell hfs
      have hn1 : ns.length = fs.flatten.length := hn3.1
      have hnl : ns.length = fs.length * sz := by rw [hn1, O6 hu]
      have hone : ∀ u ∈ ns, u.oneCell' = true := fun u hm => by
        obtain ⟨j, hj⟩ := List.getElem?_of_mem hm
        have hjl : j < fs.flatten.length := by rw [← hn1]; exact (List.getElem?_eq_some_iff.1 hj).1
        exact (hn3.2 j u _ hj (List.getElem?_eq_getElem hjl)).2
      obtain ⟨v', w', hr, hown', hgr, _, hblk⟩ := run_append_own_at (P := P) w 0 t o.type e inf z sz by' ht hinf hz hsz hby hzs hb1 v es.length xs hown ad fs.length c ns hnl hn2 hone Ab5 hlen (Nat.zero_le _)
      have hex : (execOp a.eval o).run P w = .ok (.value v') w' := by
        simp only [execOp, ho, resolve, invoke, builtin, Sem.run_bind, Sem.run_pure, Result.andThen_ok, List.map_toArray, List.map_cons, List.map_nil, e1, e2, hr]
      unfold Oper.wp
      rw [hex, Oper.upon_value]
      refine ⟨v', v', R, trivial, rfl, AH3 h1 hi (fun b hb => ?_) ⟨fun b hb => ?_, hufs, xs ++ ns, ?_, ?_⟩ hgr, E9.refl _, rfl⟩
      · simp only [Own.blk] at hb ⊢
        rcases hblk with h | h
        · exact .inl AO9
        · rw [hb] at h; injection h with h; exact .inr h
      · rcases hblk with h | h
        · exact hR b AO9
        · rw [hb] at h; injection h with h; subst h; exact y6 h1.rle
      · rw [H6]; exact hown'
      · rw [List.flatten_append]; exact Y3 hdc hn3
end
end Go.AV
namespace Go.AV
section
variable {P : Program} {G : Nat → Prop} {n : Nat} {own : List Own} {env : List (Nat × AV)} {fn : Func}
theorem AQ5 {sel : List Own} {cs : List AV} {sz : Nat} (j : Nat) (h : cs[j]? = some AV.nils) : d3 sel cs (cs.set j (AV.list sz [])) := ⟨by rw [List.length_set], fun i x y hx hy => by
  by_cases e : j = i
  · subst e
    rw [List.getElem?_set_self (List.getElem?_eq_some_iff.1 h).1] at hy
    rw [h] at hx
    injection hx with hx; injection hy with hy; subst hx; subst hy
    exact Ac7
  · rw [List.getElem?_set_ne e, hx] at hy
    injection hy with hy; subst hy; exact G5⟩
theorem Y5 {E : F3} {q : Operand} {v : Value} {e : TypeId} {sz : Nat} {es : List (List AV)} (i : Nat) (hi : own[i]? = some (.arr v e sz es)) (hq : Ev E q (AV.is v)) : SrcE own E q sz es := fun G w0 R0 R a w hc he => by
  have e1 : a.eval q = _ := hq R a he
  have hok := hc.owned _ (D9 hi)
  have hu := hok.2.1
  refine ⟨hu, ?_⟩
  obtain ⟨_, _, xs0, hown0, _⟩ := hok
  rcases hown0.2 with ⟨h1, h2⟩ | ⟨g, cap, cur0, h1, _⟩
  · subst h1
    have h3 : es = [] := List.eq_nil_of_length_eq_zero h2
    subst h3
    exact ⟨none, 0, [], e1, fun h => absurd rfl h⟩
  · subst h1
    by_cases hne : es = []
    · subst hne; exact ⟨_, cap, [], e1, fun h => absurd rfl h⟩
    · have hsrc := j0 (own := own) (E := E) (q := q) i hi hq
      obtain ⟨_, h7⟩ := hsrc G w0 R0 R a w hc he
      obtain ⟨ad, c, vs, k1, k2, k3⟩ := h7 hne
      exact ⟨_, c, vs, k1, fun _ => ⟨ad, rfl, k2, k3⟩⟩
theorem Ag6 {o : Oper} {ops : Array Oper} {E : F3} {α : Type} {ok : α → Prop} {W' : α → List Own} {V : α → AV} {sel rest : α → List Own} {Y : α → AV} (is : List Nat) (hp : ∀ a, pick (W' a) is = (sel a, rest a)) (hl : ∀ a, c8 (sel a) (V a) (Y a)) (hG : ∀ a b, G b → b ∈ (rest a).filterMap Own.blk)
    (h : OpE P G n own ops o E ok W' V) : OpE P G n own ops o E ok rest Y := fun w0 R0 R a w h1 h2 h3 =>
  Oper.wp_mono2 (fun a' w' ⟨x, v, R', e0, e1, e2, e3, e4⟩ =>
    have hk := Z8 e2 (hp x)
    ⟨x, v, lend (sel x) w' R', e0, e1, AN1 hk (hG x), e3.trans (Y2 (P0 hk)), hl x G w0 R0 R' w' v (P0 hk) e4⟩) (fun _ _ _ h => h) (h w0 R0 R a w h1 h2 h3)
theorem AZ4 (i j sz : Nat) {b : Nat} {t : TypeId} {cs : List AV} (hi : own[i]? = some (.box b t cs)) (hj : cs[j]? = some AV.nils) (hG : ∀ b, G b → b ∈ own.filterMap Own.blk) : Le G n ⟨own, env⟩ ⟨own.set i (.box b t (cs.set j (AV.list sz []))), env⟩ :=
  AX4 [] i (.box b t (cs.set j (AV.list sz []))) rfl hi ⟨rfl, rfl, AQ5 j hj⟩ hG
theorem J3 {α : Type} {ok : α → Prop} {O : α → List Own} {V : α → AV} (i j sz : Nat) {b : Nat} {t : TypeId} {cs : List AV} (hi : own[i]? = some (.box b t cs)) (hj : cs[j]? = some AV.nils) (hG : ∀ b, G b → b ∈ own.filterMap Own.blk)
    (k : K2 P G n fn ⟨own.set i (.box b t (cs.set j (AV.list sz []))), env⟩ ok O V) : K2 P G n fn ⟨own, env⟩ ok O V := fun w0 R0 R a w hs => by
  have hle : Le G n ⟨own, env⟩ ⟨own.set i (.box b t (cs.set j (AV.list sz []))), env⟩ := AX4 [] i (.box b t (cs.set j (AV.list sz []))) rfl hi ⟨rfl, rfl, AQ5 j hj⟩ hG
  obtain ⟨R1, h1, h2⟩ := hle w0 R0 R a w hs
  obtain ⟨x, v, R2, g0, g1, g2, g3, g4⟩ := k w0 R0 R1 a w h2
  exact ⟨x, v, R2, g0, g1, g2, h1.trans g3, g4⟩
theorem G9 {y : AV} (i j sz : Nat) {b : Nat} {t : TypeId} {cs : List AV} (hi : own[i]? = some (.box b t cs)) (hj : cs[j]? = some AV.nils)
    (k : RetOk P (fun _ => False) n fn ⟨own.set i (.box b t (cs.set j (AV.list sz []))), env⟩ y) : RetOk P (fun _ => False) n fn ⟨own, env⟩ y := fun w0 R0 R a w hs => by
  have hle : Le (fun _ => False) n ⟨own, env⟩ ⟨own.set i (.box b t (cs.set j (AV.list sz []))), env⟩ := AX4 [] i (.box b t (cs.set j (AV.list sz []))) rfl hi ⟨rfl, rfl, AQ5 j hj⟩ AB8
  obtain ⟨R1, h1, h2⟩ := hle w0 R0 R a w hs
  obtain ⟨v, R2, h3, h4, h5, h6⟩ := k w0 R0 R1 a w h2
  exact ⟨v, R2, h3, h4, h1.trans h5, h6⟩
end
section
variable {P : Program} {G : Nat → Prop} {n : Nat} {own : List Own} {o : Oper} {E : F3}
@[reducible] def byteC (b : UInt8) : List AV := [AV.ik .u8 b.toNat]
theorem AZ5 : ∀ (bs : List UInt8), (bs.map byteC).flatten = bs.map fun b => AV.ik .u8 b.toNat
  | [] => rfl
  | b :: bs => by rw [List.map_cons, List.flatten_cons, AZ5 bs]; rfl
theorem Av7 {w : World} {oa : Option Addr} {c : Nat} {bs : List UInt8} {src dst e : TypeId} (hs : P.underlying src = some (.slice e)) (he : P.underlying e = some (.int .u8)) (hdst : P.underlying dst = some .string)
    (h : bs ≠ [] → ∃ a, oa = some a ∧ ∀ (j : Nat) (b : UInt8), bs[j]? = some b → w.cell? (a.add j) = some (.int .u8 b.toNat)) :
    (convert src dst (.slice oa bs.length c)).run P w = .ok (.string ⟨bs.toArray⟩) w := by
  cases oa with
  | none =>
    have hb : bs = [] := by
      cases bs with
      | nil => rfl
      | cons b t => obtain ⟨a, ha, _⟩ := h M8; cases ha
    subst hb
    exact Go.run_convert_bytes_nil (w := w) (P := P) src e hs he _ _ dst hdst
  | some a =>
    have hl : (loadCells a bs.length).run P w = .ok ((bs.map fun b => (b.toNat : Int)).map (Value.int .u8)).toArray w := by
      have := run_loadCells_list (P := P) (w := w) a ((bs.map fun b => (b.toNat : Int)).map (Value.int .u8)) (fun j v hj => by
        rw [List.getElem?_map, List.getElem?_map] at hj
        cases hb : bs[j]? with
        | none => rw [hb] at hj; cases hj
        | some b =>
          rw [hb] at hj
          injection hj with hj; subst hj
          obtain ⟨a', ha, hc⟩ := h (by intro hn; rw [hn] at hb; simp at hb)
          injection ha with ha; subst ha
          exact hc j b hb)
      simpa using this
    rw [Go.run_convert_bytes_string w src dst e _ _ c hs he hdst, Go.run_bytesToString w a bs.length c _ hl, Go.foldl_push_bytes]
    refine congrArg (fun b => Result.ok (Value.string b) w) ?_
    refine ByteArray.ext ?_
    apply Array.toList_inj.1
    simp [ByteArray.empty, ByteArray.emptyWithCapacity]
    show [] ++ bs.map (fun b => UInt8.ofNat (Int.toNat (b.toNat : Int))) = bs
    rw [List.nil_append]
    conv => rhs; rw [← List.map_id bs]
    refine List.map_congr_left fun b _ => ?_
    rw [Int.toNat_natCast]
    simp
theorem Az3 {R : D6} {w : World} {v : Value} {bs : List UInt8} {src dst e : TypeId} (hr : RLe R w) (hd : (AV.list 1 (bs.map byteC)).den R v) (hs : P.underlying src = some (.slice e)) (he : P.underlying e = some (.int .u8)) (hdst : P.underlying dst = some .string) :
    (convert src dst v).run P w = .ok (.string ⟨bs.toArray⟩) w := by
  obtain ⟨oa, c, rfl, h1, h2, _, h4⟩ := hd
  rw [A4]
  refine Av7 hs he hdst fun hn => ?_
  obtain ⟨a, ha, hc⟩ := h4 (by intro hm; exact hn (List.map_eq_nil_iff.1 hm))
  refine ⟨a, ha, fun j b hb => ?_⟩
  rw [AZ5] at hc
  obtain ⟨u, hu, hx, _⟩ := hc j (AV.ik .u8 b.toNat) (by rw [List.getElem?_map, hb]; rfl)
  rw [u1 hr hu]
  exact congrArg some hx
theorem As3 {src dst e : TypeId} {p : Operand} {bs : List UInt8} (ho : o.op = .convert src dst p) (hs : P.underlying src = some (.slice e)) (he : P.underlying e = some (.int .u8)) (hd : P.underlying dst = some .string) (hp : Ev E p (AV.list 1 (bs.map byteC))) : OpW P G n own o E (AV.str bs) := G0 fun R a w hr hv => by
  have h1 := D7 hp qz9 hv
  exact ⟨.string ⟨bs.toArray⟩, by simp [execOp, ho, Az3 hr h1 hs he hd], rfl⟩
end
end Go.AV
namespace Go.AV
open Go.Proofs
class UnC (t : Nat) (x : outParam (Option TypeDesc)) : Prop where
  h : Tryz.prog.underlying t = x
class SzC (t : Nat) (x : outParam Nat) : Prop where
  h : ∀ w, (sizeOf t).run Tryz.prog w = .ok x w
class AgC (t : Nat) (x : outParam Bool) : Prop where
  h : ∀ w, (isAgg t).run Tryz.prog w = .ok x w
class ZvC (t : Nat) (x : outParam Value) : Prop where
  h : ∀ w, (zeroValue t).run Tryz.prog w = .ok x w
class TyC (t : Nat) (x : outParam TypeInfo) : Prop where
  h : Tryz.prog.types[t]? = some x
class CaC (f : Nat) : Prop where
  h : ∀ (a : Array Value) (w : World), (callFunc f a).run Tryz.prog w = .ok (.enter f a) w
class PlC (t : Nat) (x : outParam (Array (Nat × Nat))) : Prop where
  h : ∃ fs, Tryz.prog.underlying t = some (.struct fs) ∧ ∀ w, (fs.mapM (m := Sem) fun f => do pure (f.offset, ← sizeOf f.type)).run Tryz.prog w = .ok x w
theorem plL {t : Nat} {x : Array (Nat × Nat)} [u : PlC t x] : ∃ fs, Tryz.prog.underlying t = some (.struct fs) ∧ ∀ w, (fs.mapM (m := Sem) fun f => do pure (f.offset, ← sizeOf f.type)).run Tryz.prog w = .ok x w := u.h
theorem unL {t : Nat} {x : Option TypeDesc} [u : UnC t x] : Tryz.prog.underlying t = x := u.h
theorem szL {t x : Nat} [u : SzC t x] : ∀ w, (sizeOf t).run Tryz.prog w = .ok x w := u.h
theorem agL {t : Nat} {x : Bool} [u : AgC t x] : ∀ w, (isAgg t).run Tryz.prog w = .ok x w := u.h
theorem zvL {t : Nat} {x : Value} [u : ZvC t x] : ∀ w, (zeroValue t).run Tryz.prog w = .ok x w := u.h
instance iU9 : UnC 9 (some Tryz.t9.desc) := ⟨I2⟩
instance iA31 : AgC 31 true := ⟨C8⟩
instance iA68 : AgC 68 true := ⟨Tryz.isAgg68⟩
instance iA5 : AgC 5 false := ⟨Tryz.isAgg5⟩
instance iA51 : AgC 51 true := ⟨Tryz.isAgg51⟩
instance iA56 : AgC 56 true := ⟨Tryz.isAgg56⟩
instance iA24 : AgC 24 false := ⟨Tryz.isAgg24⟩
instance iU29 : UnC 29 (some Tryz.t29.desc) := ⟨C5⟩
instance iZ56 : ZvC 56 (Value.agg #[Value.int IntKind.i64 0, Value.int IntKind.i64 0]) := ⟨Tryz.zeroValue56⟩
instance iU51 : UnC 51 (some Tryz.t50.desc) := ⟨Tryz.underlying51⟩
instance iS22 : SzC 22 1 := ⟨Tryz.sizeOf22⟩
instance iU68 : UnC 68 (some Tryz.t67.desc) := ⟨Q2⟩
instance iA29 : AgC 29 false := ⟨Tryz.isAgg29⟩
instance iZ5 : ZvC 5 (Value.int IntKind.u8 0) := ⟨Tryz.zeroValue5⟩
instance iZ3 : ZvC 3 (Value.int IntKind.i64 0) := ⟨Tryz.zeroValue3⟩
instance iZ40 : ZvC 40 (Value.agg #[Value.bool false, Value.int IntKind.i64 0, Value.int IntKind.i64 0, Value.slice none 0 0, Value.bool false]) := ⟨Tryz.zeroValue40⟩
instance iU25 : UnC 25 (some Tryz.t25.desc) := ⟨B5⟩
instance iU28 : UnC 28 (some Tryz.t27.desc) := ⟨Tryz.underlying28⟩
instance iS31 : SzC 31 6 := ⟨C0⟩
instance iS25 : SzC 25 1 := ⟨I6⟩
instance iS5 : SzC 5 1 := ⟨Tryz.sizeOf5⟩
instance iA42 : AgC 42 false := ⟨Tryz.isAgg42⟩
instance iZ31 : ZvC 31 (Value.agg #[Value.slice none 0 0, Value.int IntKind.i64 0, Value.slice none 0 0, Value.int IntKind.i64 0, Value.slice none 0 0, Value.slice none 0 0]) := ⟨Tryz.zeroValue31⟩
instance iU56 : UnC 56 (some Tryz.t55.desc) := ⟨Tryz.underlying56⟩
instance iU22 : UnC 22 (some Tryz.t22.desc) := ⟨Q3⟩
instance iA22 : AgC 22 false := ⟨Tryz.isAgg22⟩
instance iS28 : SzC 28 4 := ⟨B1⟩
instance iU24 : UnC 24 (some Tryz.t24.desc) := ⟨B0⟩
instance iU31 : UnC 31 (some Tryz.t30.desc) := ⟨E4⟩
instance iS3 : SzC 3 1 := ⟨D0⟩
instance iU40 : UnC 40 (some Tryz.t39.desc) := ⟨D2⟩
instance iS4 : SzC 4 1 := ⟨N6⟩
instance iS40 : SzC 40 5 := ⟨B4⟩
instance iA40 : AgC 40 true := ⟨Tryz.isAgg40⟩
instance iS9 : SzC 9 1 := ⟨Tryz.sizeOf9⟩
instance iZ51 : ZvC 51 (Value.agg #[Value.int IntKind.i64 0, Value.int IntKind.i64 0, Value.int IntKind.i64 0]) := ⟨Tryz.zeroValue51⟩
instance iS56 : SzC 56 2 := ⟨J5⟩
instance iU44 : UnC 44 (some Tryz.t43.desc) := ⟨Tryz.underlying44⟩
instance iA4 : AgC 4 false := ⟨X1⟩
instance iS29 : SzC 29 1 := ⟨Y6⟩
instance iU109 : UnC 109 (some Tryz.t109.desc) := ⟨Tryz.underlying109⟩
instance iS42 : SzC 42 1 := ⟨Tryz.sizeOf42⟩
instance iA26 : AgC 26 false := ⟨Tryz.isAgg26⟩
instance iZ44 : ZvC 44 (Value.agg #[Value.slice none 0 0, Value.int IntKind.i64 0, Value.int IntKind.u64 0]) := ⟨Tryz.zeroValue44⟩
instance iU32 : UnC 32 (some Tryz.t32.desc) := ⟨N5⟩
instance iZ28 : ZvC 28 (Value.agg #[Value.int IntKind.i64 0, Value.slice none 0 0, Value.int IntKind.i64 0, Value.slice none 0 0]) := ⟨Tryz.zeroValue28⟩
instance iS51 : SzC 51 3 := ⟨f9⟩
instance iS24 : SzC 24 1 := ⟨Tryz.sizeOf24⟩
instance iU26 : UnC 26 (some Tryz.t26.desc) := ⟨A9⟩
instance iA9 : AgC 9 false := ⟨Tryz.isAgg9⟩
instance iS68 : SzC 68 4 := ⟨E2⟩
instance iA28 : AgC 28 true := ⟨C2⟩
instance iS26 : SzC 26 1 := ⟨Y7⟩
instance iA25 : AgC 25 false := ⟨S6⟩
instance iZ68 : ZvC 68 (Value.agg #[Value.int IntKind.i64 0, Value.int IntKind.i64 0, Value.int IntKind.i64 0, Value.string (ByteArray.mk #[])]) := ⟨Tryz.zeroValue68⟩
instance iA3 : AgC 3 false := ⟨K5⟩
instance iP28 : PlC 28 #[(0, 1), (1, 1), (2, 1), (3, 1)] := ⟨_, Tryz.underlying28, fun w => by kernel_rfl⟩
instance iP31 : PlC 31 #[(0, 1), (1, 4), (5, 1)] := ⟨_, E4, fun w => by kernel_rfl⟩
instance iP40 : PlC 40 #[(0, 1), (1, 1), (2, 1), (3, 1), (4, 1)] := ⟨_, D2, fun w => by kernel_rfl⟩
instance iP44 : PlC 44 #[(0, 1), (1, 1), (2, 1)] := ⟨_, Tryz.underlying44, fun w => by kernel_rfl⟩
instance iP51 : PlC 51 #[(0, 1), (1, 1), (2, 1)] := ⟨_, Tryz.underlying51, fun w => by kernel_rfl⟩
instance iP56 : PlC 56 #[(0, 1), (1, 1)] := ⟨_, Tryz.underlying56, fun w => by kernel_rfl⟩
instance iP68 : PlC 68 #[(0, 1), (1, 1), (2, 1), (3, 1)] := ⟨_, Q2, fun w => by kernel_rfl⟩
theorem omA {p : Prop} (h : p := by first | omega | ((try simp only [lenZs, T0, szR] at *); omega) | (have hc2 := hc; simp only [bolZs, beq_iff_eq, bne_iff_ne, A4, G8] at hc2; omega)) : p := h
theorem fsl {fs : Array Field} {k : Nat} {fd : Field} (h : fs.toList[k]? = some fd) : fs[k]? = some fd := by rw [← h]; simp
section
variable {P : Program} {G : Nat → Prop} {n : Nat}
theorem w_fldB2 {own : List Own} {o : Oper} {E : F3} {t : TypeId} {p : Operand} {b off : Nat} {fs : Array Field} {fd : Field} {k j : Nat} (m : Nat) (ho : o.op = .fieldAddr t p k) (ht : P.underlying t = some (.struct fs)) (hk : fs.toList[k]? = some fd) (hs : ∀ w, (sizeOf fd.type).run P w = .ok (j + 1) w)
    (hp : Ev E p (AV.ptr b off)) (hm : off + fd.offset = m) : OpW P G n own o E (AV.ptr b m) := w_fldBn m ho ht (fsl hk) hs hp hm
theorem w_fldE2 {own : List Own} {o : Oper} {E : F3} {t : TypeId} {p : Operand} {fs : Array Field} {fd : Field} {k m : Nat} {xs ys : List AV} (ho : o.op = .fieldAddr t p k) (ht : P.underlying t = some (.struct fs)) (hk : fs.toList[k]? = some fd) (hs : ∀ w, (sizeOf fd.type).run P w = .ok (m + 1) w)
    (hp : Ev E p (AV.eptr xs)) (hy : xs.drop fd.offset = ys) : OpW P G n own o E (AV.eptr ys) := w_fldE ho ht (fsl hk) hs hp hy
theorem w_build2 {own : List Own} {o : Oper} {E : F3} {t : TypeId} {z : Value} {ps : Array (Nat × Operand)} {asl : List (Nat × List AV)} {places : Array (Nat × Nat)} {cs : List AV} (ho : o.op = .build t ps) (hz : ∀ w, (zeroValue t).run P w = .ok z w)
    (hpl : ∃ fs, P.underlying t = some (.struct fs) ∧ ∀ w, (fs.mapM (m := Sem) fun f => do pure (f.offset, ← sizeOf f.type)).run P w = .ok places w) (h1' : z.cells.toList.all Value.oneCell' = true) (hp : EvP E ps.toList asl) (hc : afill (places[·]?) (z.cells.toList.map zeroA) asl = some cs) :
    OpW P G n own o E (AV.agg cs) := by
  obtain ⟨fs, h1, h2⟩ := hpl
  exact I3 ho h1 hz h2 h1' hp hc
theorem gSq {B : Prop} {ops : Array Oper} {l : List Oper} {s : E0} {K : E0 → Prop} (h : B → H8 P G n ops l s K) : B → H8 P G n ops l s K := h
theorem gCh {B : Prop} {own : List Own} {ops : Array Oper} {l : List Oper} {e : List (Nat × AV)} {K : List (Nat × AV) → Prop} (h : B → j6 P G n own ops l e K) : B → j6 P G n own ops l e K := h
theorem gBc {B : Prop} {I : List Own → Prop} {ops : Array Oper} {l : List (Nat × Bool)} {e : List (Nat × AV)} {W : List Own} {K : List (Nat × AV) → List Own → Prop} (h : B → BCh P G n I ops l e W K) : B → BCh P G n I ops l e W K := h
theorem gBt {B : Prop} {I : List Own → Prop} {ops : Array Oper} {l : OT} {e : List (Nat × AV)} {W : List Own} {K : List (Nat × AV) → List Own → Prop} (h : B → BT P G n I ops l e W K) : B → BT P G n I ops l e W K := h
theorem gB3 {B : Prop} {I : List Own → Prop} {ops : Array Oper} {l : OT3} {e : List (Nat × AV)} {W : List Own} {K : List (Nat × AV) → List Own → Prop} (h : B → BT3 P G n I ops l e W K) : B → BT3 P G n I ops l e W K := h
end
theorem ix0 {α : Type} {l : List α} {x : α} (h : l[0]? = some x) : l[0]? = some x := h
theorem ix1 {α : Type} {l : List α} {x : α} (h : l[1]? = some x) : l[1]? = some x := h
theorem ix2 {α : Type} {l : List α} {x : α} (h : l[2]? = some x) : l[2]? = some x := h
theorem ix3 {α : Type} {l : List α} {x : α} (h : l[3]? = some x) : l[3]? = some x := h
theorem ix4 {α : Type} {l : List α} {x : α} (h : l[4]? = some x) : l[4]? = some x := h
theorem ix5 {α : Type} {l : List α} {x : α} (h : l[5]? = some x) : l[5]? = some x := h
theorem ix6 {α : Type} {l : List α} {x : α} (h : l[6]? = some x) : l[6]? = some x := h
theorem ix7 {α : Type} {l : List α} {x : α} (h : l[7]? = some x) : l[7]? = some x := h
theorem ix8 {α : Type} {l : List α} {x : α} (h : l[8]? = some x) : l[8]? = some x := h
theorem ix9 {α : Type} {l : List α} {x : α} (h : l[9]? = some x) : l[9]? = some x := h
theorem ix10 {α : Type} {l : List α} {x : α} (h : l[10]? = some x) : l[10]? = some x := h
theorem ix11 {α : Type} {l : List α} {x : α} (h : l[11]? = some x) : l[11]? = some x := h
theorem ix12 {α : Type} {l : List α} {x : α} (h : l[12]? = some x) : l[12]? = some x := h
theorem ix13 {α : Type} {l : List α} {x : α} (h : l[13]? = some x) : l[13]? = some x := h
theorem ix14 {α : Type} {l : List α} {x : α} (h : l[14]? = some x) : l[14]? = some x := h
theorem ix15 {α : Type} {l : List α} {x : α} (h : l[15]? = some x) : l[15]? = some x := h
theorem ixA {p : Prop} (h : p := by 
  first
  | (apply ix0; apply Eq.refl)
  | (apply ix1; apply Eq.refl)
  | (apply ix2; apply Eq.refl)
  | (apply ix3; apply Eq.refl)
  | (apply ix4; apply Eq.refl)
  | (apply ix5; apply Eq.refl)
  | (apply ix6; apply Eq.refl)
  | (apply ix7; apply Eq.refl)
  | (apply ix8; apply Eq.refl)
  | (apply ix9; apply Eq.refl)
  | (apply ix10; apply Eq.refl)
  | (apply ix11; apply Eq.refl)
  | (apply ix12; apply Eq.refl)
  | (apply ix13; apply Eq.refl)
  | (apply ix14; apply Eq.refl)
  | (apply ix15; apply Eq.refl)) : p := h
theorem evA {p : Prop} (h : p := by 
  first
  | (apply B9; apply Eq.refl; exact hc)
  | (apply B9; apply Eq.refl; exact (and_l hc))
  | (apply A0; apply Eq.refl)
  | apply D4
  | apply ev_cb) : p := h
theorem eiA {p : Prop} (h : p := by 
  first
  | (apply evif_w; apply Eq.refl)
  | (apply evif_w2; apply Eq.refl; exact hc)
  | (apply evif; exact evA)) : p := h
theorem asA {p : Prop} (h : p := by 
  first
  | apply F2
  | apply M9
  | apply AJ9
  | apply u3
  | apply Ar6) : p := h
theorem bpA {p : Prop} (h : p := by (repeat (apply B7; exact evA; exact asA)); apply I0) : p := h
theorem gdA {p : Prop} (h : p := by 
  first
  | (apply j7; apply Eq.refl; apply Eq.refl; apply Eq.refl)
  | (apply V6; apply Eq.refl; apply Eq.refl; apply Eq.refl)
  | (apply r3; apply Eq.refl; apply Eq.refl; apply Eq.refl)
  | (apply i8; apply Eq.refl; apply Eq.refl; apply Eq.refl)) : p := h
theorem nm0 {x : Nat} (h : x = 0) : x = 0 := h
theorem nm1 {x : Nat} (h : x = 1) : x = 1 := h
theorem nm2 {x : Nat} (h : x = 2) : x = 2 := h
theorem nm3 {x : Nat} (h : x = 3) : x = 3 := h
theorem nm4 {x : Nat} (h : x = 4) : x = 4 := h
theorem nm5 {x : Nat} (h : x = 5) : x = 5 := h
theorem nm6 {x : Nat} (h : x = 6) : x = 6 := h
theorem nm7 {x : Nat} (h : x = 7) : x = 7 := h
theorem nm8 {x : Nat} (h : x = 8) : x = 8 := h
theorem nm9 {x : Nat} (h : x = 9) : x = 9 := h
theorem nm10 {x : Nat} (h : x = 10) : x = 10 := h
theorem nm11 {x : Nat} (h : x = 11) : x = 11 := h
theorem nm12 {x : Nat} (h : x = 12) : x = 12 := h
theorem nm13 {x : Nat} (h : x = 13) : x = 13 := h
theorem nm14 {x : Nat} (h : x = 14) : x = 14 := h
theorem nm15 {x : Nat} (h : x = 15) : x = 15 := h
theorem nm16 {x : Nat} (h : x = 16) : x = 16 := h
theorem nm17 {x : Nat} (h : x = 17) : x = 17 := h
theorem nm18 {x : Nat} (h : x = 18) : x = 18 := h
theorem nm19 {x : Nat} (h : x = 19) : x = 19 := h
theorem nm20 {x : Nat} (h : x = 20) : x = 20 := h
theorem nm21 {x : Nat} (h : x = 21) : x = 21 := h
theorem nm22 {x : Nat} (h : x = 22) : x = 22 := h
theorem nm23 {x : Nat} (h : x = 23) : x = 23 := h
theorem nm24 {x : Nat} (h : x = 24) : x = 24 := h
theorem nm25 {x : Nat} (h : x = 25) : x = 25 := h
theorem nm26 {x : Nat} (h : x = 26) : x = 26 := h
theorem nm27 {x : Nat} (h : x = 27) : x = 27 := h
theorem nm28 {x : Nat} (h : x = 28) : x = 28 := h
theorem nm29 {x : Nat} (h : x = 29) : x = 29 := h
theorem nm30 {x : Nat} (h : x = 30) : x = 30 := h
theorem nm31 {x : Nat} (h : x = 31) : x = 31 := h
theorem nm32 {x : Nat} (h : x = 32) : x = 32 := h
theorem nmA {p : Prop} (h : p := by 
  first
  | (apply nm0; apply Eq.refl)
  | (apply nm1; apply Eq.refl)
  | (apply nm2; apply Eq.refl)
  | (apply nm3; apply Eq.refl)
  | (apply nm4; apply Eq.refl)
  | (apply nm5; apply Eq.refl)
  | (apply nm6; apply Eq.refl)
  | (apply nm7; apply Eq.refl)
  | (apply nm8; apply Eq.refl)
  | (apply nm9; apply Eq.refl)
  | (apply nm10; apply Eq.refl)
  | (apply nm11; apply Eq.refl)
  | (apply nm12; apply Eq.refl)
  | (apply nm13; apply Eq.refl)
  | (apply nm14; apply Eq.refl)
  | (apply nm15; apply Eq.refl)
  | (apply nm16; apply Eq.refl)
  | (apply nm17; apply Eq.refl)
  | (apply nm18; apply Eq.refl)
  | (apply nm19; apply Eq.refl)
  | (apply nm20; apply Eq.refl)
  | (apply nm21; apply Eq.refl)
  | (apply nm22; apply Eq.refl)
  | (apply nm23; apply Eq.refl)
  | (apply nm24; apply Eq.refl)
  | (apply nm25; apply Eq.refl)
  | (apply nm26; apply Eq.refl)
  | (apply nm27; apply Eq.refl)
  | (apply nm28; apply Eq.refl)
  | (apply nm29; apply Eq.refl)
  | (apply nm30; apply Eq.refl)
  | (apply nm31; apply Eq.refl)
  | (apply nm32; apply Eq.refl)) : p := h
theorem vA {p : Prop} (h : p := by 
  first
  | (apply w_move; apply Eq.refl; exact evA)
  | (apply P1; apply Eq.refl; exact evA)
  | (apply w_fldB2; apply Eq.refl; exact unL; apply Eq.refl; exact szL; exact evA; exact nmA)
  | (apply d8; apply Eq.refl; exact evA; exact ixA; exact agL; apply Eq.refl)
  | (apply Ac5; apply Eq.refl; exact evA; exact ixA; exact agL; exact szL; apply Eq.refl)
  | (apply w_llen; apply Eq.refl; exact unL; exact evA)
  | (apply Ay3; apply Eq.refl; exact evA; apply Eq.refl)
  | (apply w_not; apply Eq.refl; exact evA)
  | (apply w_loadE1; apply Eq.refl; exact evA; exact agL; apply Eq.refl)
  | (apply Ar3; apply Eq.refl; exact evA; exact agL; exact szL)
  | (apply w_fldE2; apply Eq.refl; exact unL; apply Eq.refl; exact szL; exact evA; apply Eq.refl)
  | (apply w_nilB; apply Eq.refl; exact evA)
  | (apply w_and; apply Eq.refl; exact evA; exact eiA)
  | (apply w_or; apply Eq.refl; exact evA; exact eiA)
  | (apply w_lss; apply Eq.refl; exact evA; exact evA)
  | (apply w_eql; apply Eq.refl; exact evA; exact evA)
  | (apply Aj6; apply Eq.refl; exact evA; exact evA; exact omA)
  | (apply AE6; apply Eq.refl; exact evA; exact evA; exact omA)
  | (apply w_gtr; apply Eq.refl; exact evA; exact evA)
  | (apply w_leq; apply Eq.refl; exact evA; exact evA)
  | (apply w_geq; apply Eq.refl; exact evA; exact evA)
  | (apply w_neq; apply Eq.refl; exact evA; exact evA)
  | (apply w_seql; apply Eq.refl; exact evA; exact evA)
  | (apply w_sneq; apply Eq.refl; exact evA; exact evA)
  | (apply w_alen; apply Eq.refl; exact unL; exact evA; exact ixA)
  | (apply w_slen; apply Eq.refl; exact unL; exact evA)
  | (apply w_build2; apply Eq.refl; exact zvL; exact plL; apply Eq.refl; exact bpA; apply Eq.refl)
  | (apply AW5; apply Eq.refl; exact unL; exact szL; exact zvL; apply Eq.refl; apply Eq.refl; apply Eq.refl; apply Eq.refl; exact bpA; apply Eq.refl; apply Eq.refl)) : p := h
theorem s1 {A B : Prop} (h : B → A := by
 first
 | ((with_reducible apply gSq); first | (apply AL9; apply Eq.refl; apply Eq.refl; apply Eq.refl; exact vA) | apply sq_nil | (apply o6; apply Eq.refl; apply Eq.refl; exact gdA; exact (fun hc => vA)) | (apply Au9; apply Eq.refl; apply Eq.refl; apply Eq.refl; exact evA; exact evA; exact asA; exact ixA; exact szL; apply Eq.refl) | (apply M2; apply Eq.refl; apply Eq.refl; apply Eq.refl; exact evA; exact evA; exact asA; exact ixA; exact szL; apply Eq.refl) | (apply sq_alloc; apply Eq.refl; apply Eq.refl; apply Eq.refl; apply Eq.refl; exact zvL; apply Eq.refl) | (apply sq_box; apply Eq.refl; apply Eq.refl; apply Eq.refl; apply Eq.refl; exact evA))
 | ((with_reducible apply gCh); first | (apply B8; apply Eq.refl; apply Eq.refl; exact vA) | apply ch_nil | (apply N9; apply Eq.refl; exact gdA; exact (fun hc => vA)))
 | ((with_reducible apply gBc); first | (apply M5; apply Eq.refl; apply Eq.refl; apply Eq.refl; exact (fun ext => vA)) | apply bc_nil)
 | ((with_reducible apply gBt); first | (apply M6; apply Eq.refl; apply Eq.refl; apply Eq.refl; exact (fun ext => vA)) | apply bt_nil | apply bt_e1)
 | ((with_reducible apply gB3); first | (apply I1; apply Eq.refl; apply Eq.refl; apply Eq.refl; exact (fun ext => vA)) | apply bt3_nil | apply bt3_e1)
 | apply awp_seq
 | apply Au4
 | apply Ay2
 | apply awp_skip
 | apply awp_ret
 | apply awp_exit
 | (apply Ac3; kernel_rfl; kernel_rfl; apply Eq.refl)) : B → A := h
theorem s2 {A B C : Prop} (g : B → A) (f : C → B) : C → A := fun c => g (f c)
theorem t1 {A B : Prop} (h : B → A := by exact s1) : B → A := h
theorem t2 {A B : Prop} (h : B → A := by exact s2 t1 t1) : B → A := h
theorem t4 {A B : Prop} (h : B → A := by exact s2 t2 t2) : B → A := h
theorem t8 {A B : Prop} (h : B → A := by exact s2 t4 t4) : B → A := h
theorem t16 {A B : Prop} (h : B → A := by exact s2 t8 t8) : B → A := h
theorem R1 {A B : Prop} (k : B) (h : B → A := by exact t1) : A := h k
theorem R2 {A B : Prop} (k : B) (h : B → A := by exact t2) : A := h k
theorem R3 {A B : Prop} (k : B) (h : B → A := by exact s2 t2 t1) : A := h k
theorem R4 {A B : Prop} (k : B) (h : B → A := by exact t4) : A := h k
theorem R5 {A B : Prop} (k : B) (h : B → A := by exact s2 t4 t1) : A := h k
theorem R6 {A B : Prop} (k : B) (h : B → A := by exact s2 t4 t2) : A := h k
theorem R7 {A B : Prop} (k : B) (h : B → A := by exact s2 t4 (s2 t2 t1)) : A := h k
theorem R8 {A B : Prop} (k : B) (h : B → A := by exact t8) : A := h k
theorem R9 {A B : Prop} (k : B) (h : B → A := by exact s2 t8 t1) : A := h k
theorem R10 {A B : Prop} (k : B) (h : B → A := by exact s2 t8 t2) : A := h k
theorem R11 {A B : Prop} (k : B) (h : B → A := by exact s2 t8 (s2 t2 t1)) : A := h k
theorem R12 {A B : Prop} (k : B) (h : B → A := by exact s2 t8 t4) : A := h k
theorem R13 {A B : Prop} (k : B) (h : B → A := by exact s2 t8 (s2 t4 t1)) : A := h k
theorem R14 {A B : Prop} (k : B) (h : B → A := by exact s2 t8 (s2 t4 t2)) : A := h k
theorem R15 {A B : Prop} (k : B) (h : B → A := by exact s2 t8 (s2 t4 (s2 t2 t1))) : A := h k
theorem R16 {A B : Prop} (k : B) (h : B → A := by exact t16) : A := h k
theorem R17 {A B : Prop} (k : B) (h : B → A := by exact s2 t16 t1) : A := h k
theorem R18 {A B : Prop} (k : B) (h : B → A := by exact s2 t16 t2) : A := h k
theorem R19 {A B : Prop} (k : B) (h : B → A := by exact s2 t16 (s2 t2 t1)) : A := h k
theorem R20 {A B : Prop} (k : B) (h : B → A := by exact s2 t16 t4) : A := h k
theorem R21 {A B : Prop} (k : B) (h : B → A := by exact s2 t16 (s2 t4 t1)) : A := h k
theorem R23 {A B : Prop} (k : B) (h : B → A := by exact s2 t16 (s2 t4 (s2 t2 t1))) : A := h k
theorem R26 {A B : Prop} (k : B) (h : B → A := by exact s2 t16 (s2 t8 t2)) : A := h k
theorem R27 {A B : Prop} (k : B) (h : B → A := by exact s2 t16 (s2 t8 (s2 t2 t1))) : A := h k
end Go.AV
namespace Go.M
open Go.AV
abbrev Str := List UInt8
@[reducible] def strs (l : List Str) : AV := AV.list 1 (l.map fun s => [AV.str s])
@[reducible] def ints (l : List Int) : AV := AV.list 1 (l.map fun s => [AV.int s])
def sizeL {α : Type} (f : α → Nat) (l : List α) : Nat := l.length + (l.map f).sum
def szR (n : Nat) (left : Int) : Int := if left < n then -1 else left - n
theorem sum_le {α : Type} (f : α → Nat) : ∀ (l : List α) (i : Nat) (x : α), l[i]? = some x → ((l.take i).map f).sum + f x ≤ (l.map f).sum
  | [], i, x, h => by simp at h
  | y :: l, 0, x, h => by simp at h; subst h; simp
  | y :: l, i + 1, x, h => by
    have := sum_le f l i x AO7
    simp only [AA6, List.map_cons, List.sum_cons]; omega
theorem Az4 {α : Type} {f : α → Nat} {l : List α} {x : α} (h : x ∈ l) : f x ≤ sizeL f l := by
  obtain ⟨i, hi⟩ := List.getElem?_of_mem h
  have := sum_le f l i x hi
  unfold sizeL; omega
theorem Az5 {α : Type} {f : α → Nat} {l : List α} : l.length ≤ sizeL f l := by unfold sizeL; omega
theorem As4 {α : Type} [Inhabited α] (l : List α) (i : Nat) : ∃ y, i < l.length → l[i]? = some y := ⟨l[i]?.getD default, fun h => by rw [List.getElem?_eq_getElem h]; rfl⟩
def bs {α : Type} (f : α → Int) (l : List α) (i j : Nat) : Nat :=
  if i < j then
    match l[(i + j) / 2]? with
    | some x => if f x < 0 then bs f l ((i + j) / 2 + 1) j else bs f l i ((i + j) / 2)
    | none => i
  else i
termination_by j - i
theorem half_eq {i j : Nat} (h : i + j ≤ 9223372036854775807) : IntKind.i64.wrap (IntKind.u64.wrap ((i : Int) + (j : Int)) / 2 ^ ((1 : Int).toNat)) = ((i + j) / 2 : Nat) := by
  have h1 : IntKind.u64.wrap ((i : Int) + (j : Int)) = (i : Int) + (j : Int) := by simp only [IntKind.wrap, IntKind.bits, IntKind.signed]; simp; omega
  rw [h1]
  have h2 : ((i : Int) + (j : Int)) / 2 ^ ((1 : Int).toNat) = (((i + j) / 2 : Nat) : Int) := by
    show ((i : Int) + (j : Int)) / 2 = _
    omega
  rw [h2]
  exact AP6 qz6
def idxFrom {α : Type} (p : α → Bool) : List α → Int → Int
  | [], _ => -1
  | x :: xs, k => if p x then k else idxFrom p xs (k + 1)
theorem AJ6 {α : Type} (p : α → Bool) : ∀ (l : List α) (k : Int), 0 ≤ k → decide (0 ≤ idxFrom p l k) = l.any p
  | [], _, _ => rfl
  | x :: xs, k, h => by
    unfold idxFrom
    cases hp : p x with
    | true => simp [hp]; exact h
    | false => simp [hp, AJ6 p xs (k + 1) qz6]
theorem ins_grow {α β : Type} {f : α → β} {l : List α} {x : α} {i : Nat} {Z : List β} (hi : i ≤ l.length) (hZ : Z.length = l.length + 1 - i) : (l.take i ++ x :: l.drop i).map f =
    ((((l.map f).take i ++ Z).take i ++ [f x] ++ ((l.map f).take i ++ Z).drop (i + [f x].length)).take (i + 1) ++ (l.map f).drop i ++ (((l.map f).take i ++ Z).take i ++ [f x] ++ ((l.map f).take i ++ Z).drop (i + [f x].length)).drop (i + 1 + ((l.map f).drop i).length)) := by
  have h1 : ((l.map f).take i).length = i := by simp; omega
  have hA : ((l.map f).take i ++ Z).take i = (l.map f).take i := List.take_left' h1
  have h2 : ((l.map f).take i ++ [f x]).length = i + 1 := by simp; omega
  rw [hA, List.take_left' h2]
  have hB : ((l.map f).take i ++ [f x] ++ ((l.map f).take i ++ Z).drop (i + [f x].length)).length ≤ i + 1 + ((l.map f).drop i).length := by
    simp only [H6, G8, A4, J9, Z3, List.length_drop, hZ]; omega
  rw [List.drop_eq_nil_of_le hB]
  simp [List.map_take, List.map_drop]
theorem Az6 {α β : Type} {f : α → β} {l : List α} {x : α} {i : Nat} (hi : i < l.length) : (l.take i ++ x :: l.drop i).map f =
    ((l.map f).take (i + 1) ++ (l.map f).drop i).take i ++ [f x] ++ ((l.map f).take (i + 1) ++ (l.map f).drop i).drop (i + [f x].length) := by
  have h1 : ((l.map f).take (i + 1)).length = i + 1 := by simp; omega
  rw [List.take_append_of_le_length qz6, List.take_take, Nat.min_eq_left qz6, show i + [f x].length = i + 1 from rfl, List.drop_left' h1]
  simp [List.map_take, List.map_drop]
structure d4 where
  Off : Int
deriving DecidableEq, Inhabited
def d4.cs (c : d4) : List AV := [AV.int c.Off]
theorem d4.flat (c : d4) : ∀ x ∈ c.cs, Flat x := (C1 (F9 _ _) G7)
def d4.size (c : d4) : Nat := 0
structure AC1 where
  Who : Int
  From : Int
  Until : Int
deriving DecidableEq, Inhabited
def AC1.cs (c : AC1) : List AV := [AV.int c.Who, AV.int c.From, AV.int c.Until]
theorem AC1.flat (c : AC1) : ∀ x ∈ c.cs, Flat x := (C1 (F9 _ _) (C1 (F9 _ _) (C1 (F9 _ _) G7)))
def AC1.size (c : AC1) : Nat := 0
structure TWatch where
  True : Int
  Clocks : List d4
  Given : List AC1
deriving DecidableEq, Inhabited
def TWatch.cs (c : TWatch) : List AV := [AV.int c.True, AV.list 1 (c.Clocks.map d4.cs), AV.list 3 (c.Given.map AC1.cs)]
def TWatch.size (c : TWatch) : Nat := c.Clocks.length + c.Given.length
structure s5 where
  Kind : Int
  Who : Int
  By : Int
deriving DecidableEq, Inhabited
def s5.cs (c : s5) : List AV := [AV.int c.Kind, AV.int c.Who, AV.int c.By]
theorem s5.flat (c : s5) : ∀ x ∈ c.cs, Flat x := (C1 (F9 _ _) (C1 (F9 _ _) (C1 (F9 _ _) G7)))
def s5.size (c : s5) : Nat := 0
structure I7 where
  Key : Str
  Val : Str
  Gone : Bool
deriving DecidableEq, Inhabited
def I7.cs (c : I7) : List AV := [AV.str c.Key, AV.str c.Val, AV.bool c.Gone]
theorem I7.flat (c : I7) : ∀ x ∈ c.cs, Flat x := (C1 (M0 _) (C1 (M0 _) (C1 (M4 _) G7)))
def I7.size (c : I7) : Nat := c.Key.length + c.Val.length
def I7.ok (c : I7) : Prop := c.Key.length ≤ 9223372036854775807 ∧ c.Val.length ≤ 9223372036854775807
structure AG7 where
  Kind : Int
  Txn : Int
  Time : Int
  Lead : Int
  Reads : List Str
  Writes : List I7
  Yes : Bool
deriving DecidableEq, Inhabited
def AG7.cs (c : AG7) : List AV := [AV.int c.Kind, AV.int c.Txn, AV.int c.Time, AV.int c.Lead, strs c.Reads, AV.list 3 (c.Writes.map I7.cs), AV.bool c.Yes]
def AG7.size (c : AG7) : Nat := sizeL (fun x => x.length) c.Reads + sizeL I7.size c.Writes
def AG7.ok (c : AG7) : Prop := (∀ x ∈ c.Reads, x.length ≤ 9223372036854775807) ∧ (∀ x ∈ c.Writes, x.ok)
structure w4 where
  Term : Int
  Rec : AG7
deriving DecidableEq, Inhabited
def w4.cs (c : w4) : List AV := [AV.int c.Term, AV.int c.Rec.Kind, AV.int c.Rec.Txn, AV.int c.Rec.Time, AV.int c.Rec.Lead, strs c.Rec.Reads, AV.list 3 (c.Rec.Writes.map I7.cs), AV.bool c.Rec.Yes]
def w4.size (c : w4) : Nat := c.Rec.size
def w4.ok (c : w4) : Prop := c.Rec.ok
structure w5 where
  Kept : Str
  Loose : Str
deriving DecidableEq, Inhabited
def w5.cs (c : w5) : List AV := [AV.str c.Kept, AV.str c.Loose]
theorem w5.flat (c : w5) : ∀ x ∈ c.cs, Flat x := (C1 (M0 _) (C1 (M0 _) G7))
def w5.size (c : w5) : Nat := c.Kept.length + c.Loose.length
def w5.ok (c : w5) : Prop := c.Kept.length ≤ 9223372036854775807 ∧ c.Loose.length ≤ 9223372036854775807
structure e7 where
  Up : Bool
  Log : List w4
  Sure : Int
deriving DecidableEq, Inhabited
def e7.cs (c : e7) : List AV := [AV.bool c.Up, AV.list 8 (c.Log.map w4.cs), AV.int c.Sure]
def e7.size (c : e7) : Nat := sizeL w4.size c.Log
def e7.ok (c : e7) : Prop := (∀ x ∈ c.Log, x.ok)
structure TGroup where
  Reps : List e7
  Term : Int
  Lead : Int
deriving DecidableEq, Inhabited
def TGroup.cs (c : TGroup) : List AV := [AV.list 3 (c.Reps.map e7.cs), AV.int c.Term, AV.int c.Lead]
def TGroup.size (c : TGroup) : Nat := sizeL e7.size c.Reps
def TGroup.ok (c : TGroup) : Prop := (∀ x ∈ c.Reps, x.ok)
structure THouse where
  Group : TGroup
  Disks : List w5
deriving DecidableEq, Inhabited
def THouse.cs (c : THouse) : List AV := [AV.list 3 (c.Group.Reps.map e7.cs), AV.int c.Group.Term, AV.int c.Group.Lead, AV.list 2 (c.Disks.map w5.cs)]
def THouse.size (c : THouse) : Nat := c.Group.size + sizeL w5.size c.Disks
def THouse.ok (c : THouse) : Prop := c.Group.ok ∧ (∀ x ∈ c.Disks, x.ok)
structure s6 where
  Kind : Int
  Rep : Int
  Rec : AG7
deriving DecidableEq, Inhabited
def s6.cs (c : s6) : List AV := [AV.int c.Kind, AV.int c.Rep, AV.int c.Rec.Kind, AV.int c.Rec.Txn, AV.int c.Rec.Time, AV.int c.Rec.Lead, strs c.Rec.Reads, AV.list 3 (c.Rec.Writes.map I7.cs), AV.bool c.Rec.Yes]
def s6.size (c : s6) : Nat := c.Rec.size
def s6.ok (c : s6) : Prop := c.Rec.ok
structure s7 where
  Kind : Int
  Rep : Int
  Rec : AG7
  Keep : Int
  Torn : Bool
deriving DecidableEq, Inhabited
def s7.cs (c : s7) : List AV := [AV.int c.Kind, AV.int c.Rep, AV.int c.Rec.Kind, AV.int c.Rec.Txn, AV.int c.Rec.Time, AV.int c.Rec.Lead, strs c.Rec.Reads, AV.list 3 (c.Rec.Writes.map I7.cs), AV.bool c.Rec.Yes, AV.int c.Keep, AV.bool c.Torn]
def s7.size (c : s7) : Nat := c.Rec.size
def s7.ok (c : s7) : Prop := c.Rec.ok
structure q7 where
  Key : Str
  Txn : Int
  Write : Bool
deriving DecidableEq, Inhabited
def q7.cs (c : q7) : List AV := [AV.str c.Key, AV.int c.Txn, AV.bool c.Write]
theorem q7.flat (c : q7) : ∀ x ∈ c.cs, Flat x := (C1 (M0 _) (C1 (F9 _ _) (C1 (M4 _) G7)))
def q7.size (c : q7) : Nat := c.Key.length
def q7.ok (c : q7) : Prop := c.Key.length ≤ 9223372036854775807
structure m4 where
  Time : Int
  Val : Str
  Gone : Bool
deriving DecidableEq, Inhabited
def m4.cs (c : m4) : List AV := [AV.int c.Time, AV.str c.Val, AV.bool c.Gone]
theorem m4.flat (c : m4) : ∀ x ∈ c.cs, Flat x := (C1 (F9 _ _) (C1 (M0 _) (C1 (M4 _) G7)))
def m4.size (c : m4) : Nat := c.Val.length
def m4.ok (c : m4) : Prop := c.Val.length ≤ 9223372036854775807
structure AD8 where
  Key : Str
  Vers : List m4
deriving DecidableEq, Inhabited
def AD8.cs (c : AD8) : List AV := [AV.str c.Key, AV.list 3 (c.Vers.map m4.cs)]
def AD8.size (c : AD8) : Nat := c.Key.length + sizeL m4.size c.Vers
def AD8.ok (c : AD8) : Prop := c.Key.length ≤ 9223372036854775807 ∧ (∀ x ∈ c.Vers, x.ok)
structure AD9 where
  Txn : Int
  Time : Int
  Lead : Int
  Reads : List Str
  Writes : List I7
deriving DecidableEq, Inhabited
def AD9.cs (c : AD9) : List AV := [AV.int c.Txn, AV.int c.Time, AV.int c.Lead, strs c.Reads, AV.list 3 (c.Writes.map I7.cs)]
def AD9.size (c : AD9) : Nat := sizeL (fun x => x.length) c.Reads + sizeL I7.size c.Writes
def AD9.ok (c : AD9) : Prop := (∀ x ∈ c.Reads, x.length ≤ 9223372036854775807) ∧ (∀ x ∈ c.Writes, x.ok)
structure AI8 where
  Txn : Int
  Yes : Bool
  Time : Int
deriving DecidableEq, Inhabited
def AI8.cs (c : AI8) : List AV := [AV.int c.Txn, AV.bool c.Yes, AV.int c.Time]
theorem AI8.flat (c : AI8) : ∀ x ∈ c.cs, Flat x := (C1 (F9 _ _) (C1 (M4 _) (C1 (F9 _ _) G7)))
def AI8.size (c : AI8) : Nat := 0
structure w6 where
  Floor : Int
  Cells : List AD8
  Held : List AD9
  Told : List AI8
deriving DecidableEq, Inhabited
def w6.cs (c : w6) : List AV := [AV.int c.Floor, AV.list 2 (c.Cells.map AD8.cs), AV.list 5 (c.Held.map AD9.cs), AV.list 3 (c.Told.map AI8.cs)]
def w6.size (c : w6) : Nat := sizeL AD8.size c.Cells + sizeL AD9.size c.Held + c.Told.length
def w6.ok (c : w6) : Prop := (∀ x ∈ c.Cells, x.ok) ∧ (∀ x ∈ c.Held, x.ok)
structure AT7 where
  Low : Int
  High : Int
deriving DecidableEq, Inhabited
def AT7.cs (c : AT7) : List AV := [AV.int c.Low, AV.int c.High]
theorem AT7.flat (c : AT7) : ∀ x ∈ c.cs, Flat x := (C1 (F9 _ _) (C1 (F9 _ _) G7))
def AT7.size (c : AT7) : Nat := 0
structure w7 where
  Txn : Int
  Reads : List Str
  Writes : List I7
deriving DecidableEq, Inhabited
def w7.cs (c : w7) : List AV := [AV.int c.Txn, strs c.Reads, AV.list 3 (c.Writes.map I7.cs)]
def w7.size (c : w7) : Nat := sizeL (fun x => x.length) c.Reads + sizeL I7.size c.Writes
def w7.ok (c : w7) : Prop := (∀ x ∈ c.Reads, x.length ≤ 9223372036854775807) ∧ (∀ x ∈ c.Writes, x.ok)
structure TDeal where
  Cuts : List Str
  States : List w6
  Orders : List w7
deriving DecidableEq, Inhabited
def TDeal.cs (c : TDeal) : List AV := [strs c.Cuts, AV.list 4 (c.States.map w6.cs), AV.list 3 (c.Orders.map w7.cs)]
def TDeal.size (c : TDeal) : Nat := sizeL (fun x => x.length) c.Cuts + sizeL w6.size c.States + sizeL w7.size c.Orders
def TDeal.ok (c : TDeal) : Prop := (∀ x ∈ c.Cuts, x.length ≤ 9223372036854775807) ∧ (∀ x ∈ c.States, x.ok) ∧ (∀ x ∈ c.Orders, x.ok)
structure AA2 where
  Kind : Int
  Txn : Int
  Part : Int
  Time : Int
deriving DecidableEq, Inhabited
def AA2.cs (c : AA2) : List AV := [AV.int c.Kind, AV.int c.Txn, AV.int c.Part, AV.int c.Time]
theorem AA2.flat (c : AA2) : ∀ x ∈ c.cs, Flat x := (C1 (F9 _ _) (C1 (F9 _ _) (C1 (F9 _ _) (C1 (F9 _ _) G7))))
def AA2.size (c : AA2) : Nat := 0
structure TOp where
  Kind : Int
  Key : Str
  Val : Str
  By : Int
deriving DecidableEq, Inhabited
def TOp.cs (c : TOp) : List AV := [AV.int c.Kind, AV.str c.Key, AV.str c.Val, AV.int c.By]
theorem TOp.flat (c : TOp) : ∀ x ∈ c.cs, Flat x := (C1 (F9 _ _) (C1 (M0 _) (C1 (M0 _) (C1 (F9 _ _) G7))))
def TOp.size (c : TOp) : Nat := c.Key.length + c.Val.length
def TOp.ok (c : TOp) : Prop := c.Key.length ≤ 9223372036854775807 ∧ c.Val.length ≤ 9223372036854775807
structure m5 where
  Key : Str
  Val : Str
  There : Bool
deriving DecidableEq, Inhabited
def m5.cs (c : m5) : List AV := [AV.str c.Key, AV.str c.Val, AV.bool c.There]
theorem m5.flat (c : m5) : ∀ x ∈ c.cs, Flat x := (C1 (M0 _) (C1 (M0 _) (C1 (M4 _) G7)))
def m5.size (c : m5) : Nat := c.Key.length + c.Val.length
def m5.ok (c : m5) : Prop := c.Key.length ≤ 9223372036854775807 ∧ c.Val.length ≤ 9223372036854775807
structure X4 where
  Ops : List TOp
  Got : List m5
  Terms : List Int
  Begin : Int
  End : Int
  Yes : Bool
  Time : Int
  Dead : Bool
  Put : Bool
  Stopped : Bool
deriving DecidableEq, Inhabited
def X4.cs (c : X4) : List AV := [AV.list 4 (c.Ops.map TOp.cs), AV.list 3 (c.Got.map m5.cs), ints c.Terms, AV.int c.Begin, AV.int c.End, AV.bool c.Yes, AV.int c.Time, AV.bool c.Dead, AV.bool c.Put, AV.bool c.Stopped]
def X4.size (c : X4) : Nat := sizeL TOp.size c.Ops + sizeL m5.size c.Got + c.Terms.length
def X4.ok (c : X4) : Prop := (∀ x ∈ c.Ops, x.ok) ∧ (∀ x ∈ c.Got, x.ok)
structure U8 where
  Node : Int
  Keys : List Str
  Got : List m5
  Time : Int
  Begin : Int
  End : Int
deriving DecidableEq, Inhabited
def U8.cs (c : U8) : List AV := [AV.int c.Node, strs c.Keys, AV.list 3 (c.Got.map m5.cs), AV.int c.Time, AV.int c.Begin, AV.int c.End]
def U8.size (c : U8) : Nat := sizeL (fun x => x.length) c.Keys + sizeL m5.size c.Got
def U8.ok (c : U8) : Prop := (∀ x ∈ c.Keys, x.length ≤ 9223372036854775807) ∧ (∀ x ∈ c.Got, x.ok)
structure TWorld where
  Now : Int
  Count : Int
  Clocks : List d4
  Cuts : List Str
  Groups : List TGroup
  Locks : List (List q7)
  Promised : List Int
  Txns : List X4
  Looks : List U8
deriving DecidableEq, Inhabited
def TWorld.cs (c : TWorld) : List AV := [AV.int c.Now, AV.int c.Count, AV.list 1 (c.Clocks.map d4.cs), strs c.Cuts, AV.list 3 (c.Groups.map TGroup.cs), AV.list 1 (c.Locks.map fun x => [AV.list 3 (x.map q7.cs)]), ints c.Promised, AV.list 10 (c.Txns.map X4.cs), AV.list 6 (c.Looks.map U8.cs)]
def TWorld.size (c : TWorld) : Nat := c.Clocks.length + sizeL (fun x => x.length) c.Cuts + sizeL TGroup.size c.Groups + sizeL (fun x => sizeL q7.size x) c.Locks + c.Promised.length + sizeL X4.size c.Txns + sizeL U8.size c.Looks
def TWorld.ok (c : TWorld) : Prop := (∀ x ∈ c.Cuts, x.length ≤ 9223372036854775807) ∧ (∀ x ∈ c.Groups, x.ok) ∧ (∀ x ∈ c.Locks, (∀ y ∈ x, y.ok)) ∧ (∀ x ∈ c.Txns, x.ok) ∧ (∀ x ∈ c.Looks, x.ok)
structure m6 where
  Kind : Int
  At : Int
  By : Int
deriving DecidableEq, Inhabited
def m6.cs (c : m6) : List AV := [AV.int c.Kind, AV.int c.At, AV.int c.By]
theorem m6.flat (c : m6) : ∀ x ∈ c.cs, Flat x := (C1 (F9 _ _) (C1 (F9 _ _) (C1 (F9 _ _) G7)))
def m6.size (c : m6) : Nat := 0
structure AT8 where
  Txn : Int
  Begin : Int
  End : Int
  Yes : Bool
  Look : Bool
  Time : Int
  Got : List m5
  Writes : List I7
deriving DecidableEq, Inhabited
def AT8.cs (c : AT8) : List AV := [AV.int c.Txn, AV.int c.Begin, AV.int c.End, AV.bool c.Yes, AV.bool c.Look, AV.int c.Time, AV.list 3 (c.Got.map m5.cs), AV.list 3 (c.Writes.map I7.cs)]
def AT8.size (c : AT8) : Nat := sizeL m5.size c.Got + sizeL I7.size c.Writes
def AT8.ok (c : AT8) : Prop := (∀ x ∈ c.Got, x.ok) ∧ (∀ x ∈ c.Writes, x.ok)
structure X7 where
  Ver : Int
  Cuts : List Str
  Groups : List Int
deriving DecidableEq, Inhabited
def X7.cs (c : X7) : List AV := [AV.int c.Ver, strs c.Cuts, ints c.Groups]
def X7.size (c : X7) : Nat := sizeL (fun x => x.length) c.Cuts + c.Groups.length
def X7.ok (c : X7) : Prop := (∀ x ∈ c.Cuts, x.length ≤ 9223372036854775807)
structure AL2 where
  Maps : List X7
  Knows : List Int
deriving DecidableEq, Inhabited
def AL2.cs (c : AL2) : List AV := [AV.list 3 (c.Maps.map X7.cs), ints c.Knows]
def AL2.size (c : AL2) : Nat := sizeL X7.size c.Maps + c.Knows.length
def AL2.ok (c : AL2) : Prop := (∀ x ∈ c.Maps, x.ok)
structure TMove where
  Low : Str
  High : Str
  Phase : Int
  From : List I7
  To : List I7
  Last : Str
  Over : Bool
deriving DecidableEq, Inhabited
def TMove.cs (c : TMove) : List AV := [AV.str c.Low, AV.str c.High, AV.int c.Phase, AV.list 3 (c.From.map I7.cs), AV.list 3 (c.To.map I7.cs), AV.str c.Last, AV.bool c.Over]
def TMove.size (c : TMove) : Nat := c.Low.length + c.High.length + sizeL I7.size c.From + sizeL I7.size c.To + c.Last.length
def TMove.ok (c : TMove) : Prop := c.Low.length ≤ 9223372036854775807 ∧ c.High.length ≤ 9223372036854775807 ∧ (∀ x ∈ c.From, x.ok) ∧ (∀ x ∈ c.To, x.ok) ∧ c.Last.length ≤ 9223372036854775807
structure m7 where
  Kind : Int
  Write : I7
  Many : Int
deriving DecidableEq, Inhabited
def m7.cs (c : m7) : List AV := [AV.int c.Kind, AV.str c.Write.Key, AV.str c.Write.Val, AV.bool c.Write.Gone, AV.int c.Many]
theorem m7.flat (c : m7) : ∀ x ∈ c.cs, Flat x := (C1 (F9 _ _) (C1 (M0 _) (C1 (M0 _) (C1 (M4 _) (C1 (F9 _ _) G7)))))
def m7.size (c : m7) : Nat := c.Write.size
def m7.ok (c : m7) : Prop := c.Write.ok
structure O1 where
  Time : Int
  Group : Int
  Key : Str
  Val : Str
  Gone : Bool
deriving DecidableEq, Inhabited
def O1.cs (c : O1) : List AV := [AV.int c.Time, AV.int c.Group, AV.str c.Key, AV.str c.Val, AV.bool c.Gone]
theorem O1.flat (c : O1) : ∀ x ∈ c.cs, Flat x := (C1 (F9 _ _) (C1 (F9 _ _) (C1 (M0 _) (C1 (M0 _) (C1 (M4 _) G7)))))
def O1.size (c : O1) : Nat := c.Key.length + c.Val.length
def O1.ok (c : O1) : Prop := c.Key.length ≤ 9223372036854775807 ∧ c.Val.length ≤ 9223372036854775807
structure AE4 where
  Done : Int
deriving DecidableEq, Inhabited
def AE4.cs (c : AE4) : List AV := [AV.int c.Done]
theorem AE4.flat (c : AE4) : ∀ x ∈ c.cs, Flat x := (C1 (F9 _ _) G7)
def AE4.size (c : AE4) : Nat := 0
structure m8 where
  Name : Str
  Col : Int
  Stage : Int
deriving DecidableEq, Inhabited
def m8.cs (c : m8) : List AV := [AV.str c.Name, AV.int c.Col, AV.int c.Stage]
theorem m8.flat (c : m8) : ∀ x ∈ c.cs, Flat x := (C1 (M0 _) (C1 (F9 _ _) (C1 (F9 _ _) G7)))
def m8.size (c : m8) : Nat := c.Name.length
def m8.ok (c : m8) : Prop := c.Name.length ≤ 9223372036854775807
structure g7 where
  Name : Str
  Cols : List Str
  Idxs : List m8
deriving DecidableEq, Inhabited
def g7.cs (c : g7) : List AV := [AV.str c.Name, strs c.Cols, AV.list 3 (c.Idxs.map m8.cs)]
def g7.size (c : g7) : Nat := c.Name.length + sizeL (fun x => x.length) c.Cols + sizeL m8.size c.Idxs
def g7.ok (c : g7) : Prop := c.Name.length ≤ 9223372036854775807 ∧ (∀ x ∈ c.Cols, x.length ≤ 9223372036854775807) ∧ (∀ x ∈ c.Idxs, x.ok)
structure TRow where
  Vals : List Str
deriving DecidableEq, Inhabited
def TRow.cs (c : TRow) : List AV := [strs c.Vals]
def TRow.size (c : TRow) : Nat := sizeL (fun x => x.length) c.Vals
def TRow.ok (c : TRow) : Prop := (∀ x ∈ c.Vals, x.length ≤ 9223372036854775807)
structure o1 where
  Kind : Int
  Old : TRow
  New : TRow
deriving DecidableEq, Inhabited
def o1.cs (c : o1) : List AV := [AV.int c.Kind, strs c.Old.Vals, strs c.New.Vals]
def o1.size (c : o1) : Nat := c.Old.size + c.New.size
def o1.ok (c : o1) : Prop := c.Old.ok ∧ c.New.ok
structure TShift where
  Name : Str
  Ways : List g7
  At : List Int
  Store : List I7
deriving DecidableEq, Inhabited
def TShift.cs (c : TShift) : List AV := [AV.str c.Name, AV.list 3 (c.Ways.map g7.cs), ints c.At, AV.list 3 (c.Store.map I7.cs)]
def TShift.size (c : TShift) : Nat := c.Name.length + sizeL g7.size c.Ways + c.At.length + sizeL I7.size c.Store
def TShift.ok (c : TShift) : Prop := c.Name.length ≤ 9223372036854775807 ∧ (∀ x ∈ c.Ways, x.ok) ∧ (∀ x ∈ c.Store, x.ok)
structure m9 where
  Server : Int
  Step : Int
  Act : o1
deriving DecidableEq, Inhabited
def m9.cs (c : m9) : List AV := [AV.int c.Server, AV.int c.Step, AV.int c.Act.Kind, strs c.Act.Old.Vals, strs c.Act.New.Vals]
def m9.size (c : m9) : Nat := c.Act.size
def m9.ok (c : m9) : Prop := c.Act.ok
structure s8 where
  Ver : Int
  Until : Int
deriving DecidableEq, Inhabited
def s8.cs (c : s8) : List AV := [AV.int c.Ver, AV.int c.Until]
theorem s8.flat (c : s8) : ∀ x ∈ c.cs, Flat x := (C1 (F9 _ _) (C1 (F9 _ _) G7))
def s8.size (c : s8) : Nat := 0
structure TRenew where
  Now : Int
  Master : d4
  Clocks : List d4
  Ver : Int
  Leases : List s8
deriving DecidableEq, Inhabited
def TRenew.cs (c : TRenew) : List AV := [AV.int c.Now, AV.int c.Master.Off, AV.list 1 (c.Clocks.map d4.cs), AV.int c.Ver, AV.list 2 (c.Leases.map s8.cs)]
def TRenew.size (c : TRenew) : Nat := c.Clocks.length + c.Leases.length
structure s9 where
  Kind : Int
  Who : Int
  By : Int
deriving DecidableEq, Inhabited
def s9.cs (c : s9) : List AV := [AV.int c.Kind, AV.int c.Who, AV.int c.By]
theorem s9.flat (c : s9) : ∀ x ∈ c.cs, Flat x := (C1 (F9 _ _) (C1 (F9 _ _) (C1 (F9 _ _) G7)))
def s9.size (c : s9) : Nat := 0
structure AB3 where
  Last : Str
  Over : Bool
deriving DecidableEq, Inhabited
def AB3.cs (c : AB3) : List AV := [AV.str c.Last, AV.bool c.Over]
theorem AB3.flat (c : AB3) : ∀ x ∈ c.cs, Flat x := (C1 (M0 _) (C1 (M4 _) G7))
def AB3.size (c : AB3) : Nat := c.Last.length
def AB3.ok (c : AB3) : Prop := c.Last.length ≤ 9223372036854775807
structure TWork where
  Shift : TShift
  Up : AB3
  Down : AB3
deriving DecidableEq, Inhabited
def TWork.cs (c : TWork) : List AV := [AV.str c.Shift.Name, AV.list 3 (c.Shift.Ways.map g7.cs), ints c.Shift.At, AV.list 3 (c.Shift.Store.map I7.cs), AV.str c.Up.Last, AV.bool c.Up.Over, AV.str c.Down.Last, AV.bool c.Down.Over]
def TWork.size (c : TWork) : Nat := c.Shift.size + c.Up.size + c.Down.size
def TWork.ok (c : TWork) : Prop := c.Shift.ok ∧ c.Up.ok ∧ c.Down.ok
structure AA3 where
  Kind : Int
  Many : Int
  Act : m9
deriving DecidableEq, Inhabited
def AA3.cs (c : AA3) : List AV := [AV.int c.Kind, AV.int c.Many, AV.int c.Act.Server, AV.int c.Act.Step, AV.int c.Act.Act.Kind, strs c.Act.Act.Old.Vals, strs c.Act.Act.New.Vals]
def AA3.size (c : AA3) : Nat := c.Act.size
def AA3.ok (c : AA3) : Prop := c.Act.ok
structure AT9 where
  Kind : Int
  Act : o1
  Idx : Str
  Low : Str
  High : Str
deriving DecidableEq, Inhabited
def AT9.cs (c : AT9) : List AV := [AV.int c.Kind, AV.int c.Act.Kind, strs c.Act.Old.Vals, strs c.Act.New.Vals, AV.str c.Idx, AV.str c.Low, AV.str c.High]
def AT9.size (c : AT9) : Nat := c.Act.size + c.Idx.length + c.Low.length + c.High.length
def AT9.ok (c : AT9) : Prop := c.Act.ok ∧ c.Idx.length ≤ 9223372036854775807 ∧ c.Low.length ≤ 9223372036854775807 ∧ c.High.length ≤ 9223372036854775807
structure AU0 where
  Time : Int
  Rows : List I7
deriving DecidableEq, Inhabited
def AU0.cs (c : AU0) : List AV := [AV.int c.Time, AV.list 3 (c.Rows.map I7.cs)]
def AU0.size (c : AU0) : Nat := sizeL I7.size c.Rows
def AU0.ok (c : AU0) : Prop := (∀ x ∈ c.Rows, x.ok)
structure AU1 where
  From : Int
  To : Int
  List_ : List O1
deriving DecidableEq, Inhabited
def AU1.cs (c : AU1) : List AV := [AV.int c.From, AV.int c.To, AV.list 5 (c.List_.map O1.cs)]
def AU1.size (c : AU1) : Nat := sizeL O1.size c.List_
def AU1.ok (c : AU1) : Prop := (∀ x ∈ c.List_, x.ok)
structure j4 where
  Ver : Int
  Fill : Bool
  Act : o1
  Row : TRow
deriving DecidableEq, Inhabited
def j4.cs (c : j4) : List AV := [AV.int c.Ver, AV.bool c.Fill, AV.int c.Act.Kind, strs c.Act.Old.Vals, strs c.Act.New.Vals, strs c.Row.Vals]
def j4.size (c : j4) : Nat := c.Act.size + c.Row.size
def j4.ok (c : j4) : Prop := c.Act.ok ∧ c.Row.ok
structure TLive where
  Name : Str
  Ways : List g7
  Low : Int
  Since : List Int
  Jobs : List j4
  World : TWorld
deriving DecidableEq, Inhabited
def TLive.cs (c : TLive) : List AV := [AV.str c.Name, AV.list 3 (c.Ways.map g7.cs), AV.int c.Low, ints c.Since, AV.list 6 (c.Jobs.map j4.cs), AV.int c.World.Now, AV.int c.World.Count, AV.list 1 (c.World.Clocks.map d4.cs), strs c.World.Cuts, AV.list 3 (c.World.Groups.map TGroup.cs), AV.list 1 (c.World.Locks.map fun x => [AV.list 3 (x.map q7.cs)]), ints c.World.Promised, AV.list 10 (c.World.Txns.map X4.cs), AV.list 6 (c.World.Looks.map U8.cs)]
def TLive.size (c : TLive) : Nat := c.Name.length + sizeL g7.size c.Ways + c.Since.length + sizeL j4.size c.Jobs + c.World.size
def TLive.ok (c : TLive) : Prop := c.Name.length ≤ 9223372036854775807 ∧ (∀ x ∈ c.Ways, x.ok) ∧ (∀ x ∈ c.Jobs, x.ok) ∧ c.World.ok
structure AA4 where
  Kind : Int
  Act : m6
deriving DecidableEq, Inhabited
def AA4.cs (c : AA4) : List AV := [AV.int c.Kind, AV.int c.Act.Kind, AV.int c.Act.At, AV.int c.Act.By]
theorem AA4.flat (c : AA4) : ∀ x ∈ c.cs, Flat x := (C1 (F9 _ _) (C1 (F9 _ _) (C1 (F9 _ _) (C1 (F9 _ _) G7))))
def AA4.size (c : AA4) : Nat := 0
structure A7 where
  From : Int
  To : Int
  Due : Int
  Body : Str
deriving DecidableEq, Inhabited
def A7.cs (c : A7) : List AV := [AV.int c.From, AV.int c.To, AV.int c.Due, AV.str c.Body]
theorem A7.flat (c : A7) : ∀ x ∈ c.cs, Flat x := (C1 (F9 _ _) (C1 (F9 _ _) (C1 (F9 _ _) (C1 (M0 _) G7))))
def A7.size (c : A7) : Nat := c.Body.length
def A7.ok (c : A7) : Prop := c.Body.length ≤ 9223372036854775807
structure D5 where
  Now : Int
  Homes : List Int
  Far : Int
  Under : List A7
deriving DecidableEq, Inhabited
def D5.cs (c : D5) : List AV := [AV.int c.Now, ints c.Homes, AV.int c.Far, AV.list 4 (c.Under.map A7.cs)]
def D5.size (c : D5) : Nat := c.Homes.length + sizeL A7.size c.Under
def D5.ok (c : D5) : Prop := (∀ x ∈ c.Under, x.ok)
structure A5 where
  Up : Bool
  Term : Int
  For : Int
  Yes : List Int
  Leads : Bool
deriving DecidableEq, Inhabited
def A5.cs (c : A5) : List AV := [AV.bool c.Up, AV.int c.Term, AV.int c.For, ints c.Yes, AV.bool c.Leads]
def A5.size (c : A5) : Nat := c.Yes.length
structure G3 where
  Term : Int
  Who : Int
deriving DecidableEq, Inhabited
def G3.cs (c : G3) : List AV := [AV.int c.Term, AV.int c.Who]
theorem G3.flat (c : G3) : ∀ x ∈ c.cs, Flat x := (C1 (F9 _ _) (C1 (F9 _ _) G7))
def G3.size (c : G3) : Nat := 0
structure TPoll where
  Voters : List A5
  Net : D5
  Won : List G3
deriving DecidableEq, Inhabited
def TPoll.cs (c : TPoll) : List AV := [AV.list 5 (c.Voters.map A5.cs), AV.int c.Net.Now, ints c.Net.Homes, AV.int c.Net.Far, AV.list 4 (c.Net.Under.map A7.cs), AV.list 2 (c.Won.map G3.cs)]
def TPoll.size (c : TPoll) : Nat := sizeL A5.size c.Voters + c.Net.size + c.Won.length
def TPoll.ok (c : TPoll) : Prop := c.Net.ok
structure F7 where
  Kind : Int
  Who : Int
  By : Int
deriving DecidableEq, Inhabited
def F7.cs (c : F7) : List AV := [AV.int c.Kind, AV.int c.Who, AV.int c.By]
theorem F7.flat (c : F7) : ∀ x ∈ c.cs, Flat x := (C1 (F9 _ _) (C1 (F9 _ _) (C1 (F9 _ _) G7)))
def F7.size (c : F7) : Nat := 0
end Go.M
namespace Go.M
def within (n lo hi : Int) : Bool := decide (lo ≤ n) && decide (n ≤ hi)
def adj {α : Type} (p : α → α → Bool) : List α → Bool
  | [] => true
  | [_] => true
  | x :: y :: l => p x y && adj p (y :: l)
theorem Ak9 {α : Type} {l : List α} {k : Nat} {x y : α} (hy : l[k]? = some y) (hx : l[k + 1]? = some x) : l.drop k = y :: x :: l.drop (k + 2) := by
  rw [Go.AV.drop_some hy, Go.AV.drop_some hx]
theorem Al0 {α : Type} {p : α → α → Bool} {l : List α} {i : Nat} {x y : α} (hx : l[i]? = some x) (hy : l[i - 1]? = some y) (h : 0 < i → p y x = true) : adj p (l.drop (i - 1)) = adj p (l.drop (i + 1 - 1)) := by
  cases i with
  | zero => rfl
  | succ k =>
    simp only [Nat.add_sub_cancel] at *
    rw [Ak9 hy hx, Go.AV.drop_some hx, adj, h qz6, Bool.true_and]
theorem Al1 {α : Type} {p : α → α → Bool} {l : List α} {i : Nat} {x y : α} (hx : l[i]? = some x) (hy : l[i - 1]? = some y) (h0 : 0 < i) (h : p y x = false) : adj p (l.drop (i - 1)) = false := by
  cases i with
  | zero => omega
  | succ k =>
    simp only [Nat.add_sub_cancel] at *
    rw [Ak9 hy hx, adj, h, Bool.false_and]
theorem As5 {α : Type} {p : α → α → Bool} {l : List α} {i : Nat} (h : l.length ≤ i) : adj p (l.drop (i - 1)) = true := by
  have hl : (l.drop (i - 1)).length ≤ 1 := by rw [List.length_drop]; omega
  match hd : l.drop (i - 1), hl with
  | [], _ => rfl
  | [x], _ => rfl
theorem AN2 {α : Type} {p : α → Bool} {l : List α} {i : Nat} {x : α} (hx : l[i]? = some x) (h : p x = true) : (l.drop i).all p = (l.drop (i + 1)).all p := by
  rw [Go.AV.drop_some hx, List.all_cons, h, Bool.true_and]
theorem AN3 {α : Type} {p : α → Bool} {l : List α} {i : Nat} {x : α} (hx : l[i]? = some x) (h : p x = false) : (l.drop i).all p = false := by
  rw [Go.AV.drop_some hx, List.all_cons, h, Bool.false_and]
theorem AT3 {α : Type} {p : α → Bool} {l : List α} {i : Nat} (h : l.length ≤ i) : (l.drop i).all p = true := by
  rw [List.drop_eq_nil_of_le h]; rfl
theorem Ac9 {α : Type} {p : α → α → Bool} (tr : ∀ a b c, p a b = true → p b c = true → p a c = true) : ∀ {l : List α} {x : α}, adj p (x :: l) = true → ∀ y ∈ l, p x y = true
  | [], _, _, y, hy => by simp at hy
  | z :: l, x, h, y, hy => by
    simp only [adj, Bool.and_eq_true] at h
    rcases List.mem_cons.1 hy with rfl | hy
    · exact h.1
    · exact tr _ _ _ h.1 (Ac9 tr h.2 y hy)
theorem Al2 {α : Type} {p : α → α → Bool} {l : List α} {x : α} (h : adj p (x :: l) = true) : adj p l = true := by
  cases l with
  | nil => rfl
  | cons y l => simp only [adj, Bool.and_eq_true] at h; exact h.2
theorem AK7 {α : Type} {p : α → α → Bool} (tr : ∀ a b c, p a b = true → p b c = true → p a c = true) : ∀ {l : List α}, adj p l = true → ∀ {i j : Nat} {x y : α}, i < j → l[i]? = some x → l[j]? = some y → p x y = true
  | [], _, i, j, x, y, _, hx, _ => by simp at hx
  | z :: l, h, 0, j + 1, x, y, _, hx, hy => by
    simp at hx; subst hx
    exact Ac9 tr h y (D9 (by simpa using hy))
  | z :: l, h, i + 1, j + 1, x, y, hij, hx, hy => AK7 tr (Al2 h) (by omega : i < j) (by simpa using hx) (by simpa using hy)
theorem AF2 {α : Type} {p : α → α → Bool} (tr : ∀ a b c, p a b = true → p b c = true → p a c = true) : ∀ {l : List α}, adj p l = true ↔ l.Pairwise fun a b => p a b = true
  | [] => by simp [adj]
  | [x] => by simp [adj]
  | x :: y :: l => by
    rw [adj, Bool.and_eq_true, AF2 tr, List.pairwise_cons (a := x)]
    constructor
    · intro ⟨h1, h2⟩
      refine ⟨fun z hz => ?_, h2⟩
      rcases List.mem_cons.1 hz with rfl | hz
      · exact h1
      · exact tr _ _ _ h1 (List.rel_of_pairwise_cons h2 hz)
    · intro ⟨h1, h2⟩
      exact ⟨h1 y List.mem_cons_self, h2⟩
theorem K4 {n a b : Int} : within n a b = true ↔ a ≤ n ∧ n ≤ b := by unfold within; simp
end Go.M
namespace Go.M
open Go.AV
def H2 (n : D5) (v : Int) : Bool := within v 0 ((n.Homes.length : Int) - 1)
def isLetN (n : D5) (l : A7) : Bool := (((H2 n l.From && H2 n l.To) && (l.From != l.To)) && within l.Due 0 100200) && within (l.Body.length : Int) 1 40
def p7 (h : List Int) (far : Int) : Bool := (within (h.length : Int) 1 5 && h.all fun x => within x 0 2) && within far 0 20
def J7 (a b : A7) : Bool := decide (a.Due ≤ b.Due)
def goodUnder (n : D5) (u : List A7) : Bool := decide ((u.length : Int) ≤ 60) && (u.all (isLetN n) && adj J7 u)
def goodNet (n : D5) : Bool := (within n.Now 0 100000 && p7 n.Homes n.Far) && goodUnder n n.Under
def T3 : D5 := ⟨0, [], 0, []⟩
def L9 (n : D5) (v : Int) : Int := n.Homes.getD v.toNat 0
def q8 (n : D5) (a b : Int) : Int := 1 + n.Far * max (L9 n a - L9 n b) (-(L9 n a - L9 n b))
def V4 (u : List A7) (l : A7) : Nat := (u.takeWhile fun x => J7 x l).length
def L2 (u : List A7) (l : A7) : List A7 := u.take (V4 u l) ++ l :: u.drop (V4 u l)
def netU (n : D5) (u : List A7) : D5 := { n with Under := u }
def ifNet (n : D5) (u : List A7) : D5 × Bool := if goodNet (netU n u) = true then (netU n u, true) else (T3, false)
def Q9 (n : D5) (a b : Int) (s : Str) : A7 := ⟨a, b, n.Now + q8 n a b, s⟩
def o2 (n : D5) (a b : Int) : Bool := (H2 n a && H2 n b) && (a != b)
def P3 (n : D5) (a b : Int) (s : Str) : D5 × Bool := if o2 n a b = true then (if isLetN n (Q9 n a b s) && decide ((n.Under.length : Int) < 60) then (netU n (L2 n.Under (Q9 n a b s)), true) else (T3, false)) else (T3, false)
def Y9 (n : D5) (a b : Int) (s : Str) : D5 := if (P3 n a b s).2 = true then (P3 n a b s).1 else n
def o5 (n : D5) (i : Int) : Bool := goodNet n && within i 0 ((n.Under.length : Int) - 1)
def zLet : A7 := ⟨0, 0, 0, []⟩
def letAt (n : D5) (i : Int) : A7 := n.Under.getD i.toNat zLet
def Z0 (n : D5) (i : Int) : D5 × Bool := if o5 n i = true then (netU n (n.Under.eraseIdx i.toNat), true) else (T3, false)
def S8 (n : D5) (i : Int) : D5 × Bool := if o5 n i = true then ifNet n (L2 n.Under (letAt n i)) else (T3, false)
def w8 (l : A7) (by' : Int) : A7 := { l with Due := l.Due + by' }
def V5 (n : D5) (i by' : Int) : D5 × Bool := if (o5 n i && within by' 1 50) = true then ifNet n (L2 (n.Under.eraseIdx i.toNat) (w8 (letAt n i) by')) else (T3, false)
def AO4 (n : D5) : Nat := (n.Under.takeWhile fun x => decide (x.Due ≤ n.Now)).length
def U9 (n : D5) : D5 := netU n (n.Under.drop (AO4 n))
def S0 (n : D5) : List A7 := n.Under.take (AO4 n)
def tickN (n : D5) : D5 × Bool := if (goodNet n && (n.Now != 100000)) = true then ({ n with Now := n.Now + 1 }, true) else (T3, false)
theorem f6 {n m : D5} (h : n.Homes = m.Homes) (l : A7) : isLetN n l = isLetN m l := by unfold isLetN H2; rw [h]
theorem AZ6 (n : D5) (u : List A7) (l : A7) : isLetN (netU n u) l = isLetN n l := f6 rfl l
theorem AZ7 {n m : D5} (h : n.Homes = m.Homes) (u : List A7) : goodUnder n u = goodUnder m u := by
  unfold goodUnder; rw [show isLetN n = isLetN m from funext (f6 h)]
theorem Al3 (a b c : A7) (h1 : J7 a b = true) (h2 : J7 b c = true) : J7 a c = true := by
  unfold J7 at *; simp only [decide_eq_true_eq] at *; omega
theorem J2 {n : D5} (h : goodNet n = true) : n.Under.length ≤ 60 ∧ (∀ l ∈ n.Under, isLetN n l = true) ∧ n.Under.Pairwise fun a b => J7 a b = true := by
  unfold goodNet goodUnder at h
  simp only [Bool.and_eq_true] at h
  have h1 := of_decide_eq_true h.2.1
  exact ⟨by omega, List.all_eq_true.1 h.2.2.1, (AF2 Al3).1 h.2.2.2⟩
theorem N2 {n : D5} (h : goodNet n = true) : (0 ≤ n.Now ∧ n.Now ≤ 100000) ∧ (1 ≤ n.Homes.length ∧ n.Homes.length ≤ 5) ∧ (∀ x ∈ n.Homes, 0 ≤ x ∧ x ≤ 2) ∧ 0 ≤ n.Far ∧ n.Far ≤ 20 := by
  unfold goodNet p7 at h
  simp only [Bool.and_eq_true, K4, List.all_eq_true] at h
  obtain ⟨⟨h1, ⟨h2, h3⟩, h4⟩, _⟩ := h
  exact ⟨h1, by omega, h3, h4⟩
theorem AD2 {n : D5} (h : goodNet n = true) {u : List A7} (h1 : u.length ≤ 60) (h2 : ∀ l ∈ u, isLetN n l = true) (h3 : u.Pairwise fun a b => J7 a b = true) : goodNet (netU n u) = true := by
  unfold goodNet at h ⊢
  rw [Bool.and_eq_true] at h ⊢
  refine ⟨h.1, ?_⟩
  unfold goodUnder
  rw [Bool.and_eq_true, Bool.and_eq_true]
  exact ⟨decide_eq_true (by show (u.length : Int) ≤ 60; omega), List.all_eq_true.2 fun l hl => by rw [AZ6]; exact h2 l hl, (AF2 Al3).2 h3⟩
theorem Ah9 {n : D5} {u : List A7} (h : goodNet (netU n u) = true) : u.length ≤ 60 ∧ ∀ l ∈ u, isLetN n l = true := by
  have := J2 h
  exact ⟨this.1, fun l hl => by rw [← AZ6 n u]; exact this.2.1 l hl⟩
theorem Al4 (u : List A7) (l : A7) : V4 u l ≤ u.length := (List.takeWhile_prefix (l := u) fun x => J7 x l).length_le
theorem m1 (u : List A7) (l : A7) : (L2 u l).length = u.length + 1 := by
  have := Al4 u l
  unfold L2; rw [H6, J9, G8, List.length_drop]; omega
theorem AF3 {u : List A7} {l x : A7} : x ∈ L2 u l ↔ x = l ∨ x ∈ u := by
  unfold L2
  rw [List.mem_append, List.mem_cons]
  constructor
  · rintro (h | h | h)
    · exact .inr (List.mem_of_mem_take h)
    · exact .inl h
    · exact .inr (List.mem_of_mem_drop h)
  · rintro (h | h)
    · exact .inr (.inl h)
    · rw [← List.take_append_drop (V4 u l) u, List.mem_append] at h
      rcases h with h | h
      · exact .inl h
      · exact .inr (.inr h)
theorem Av8 (x : A7) (u : List A7) (l : A7) : V4 (x :: u) l = if J7 x l = true then V4 u l + 1 else 0 := by
  unfold V4
  rw [List.takeWhile_cons]
  split <;> rfl
theorem Az7 (x : A7) (u : List A7) (l : A7) : L2 (x :: u) l = if J7 x l = true then x :: L2 u l else l :: x :: u := by
  unfold L2
  rw [Av8]
  split
  · rw [AA6, AL7]; rfl
  · rw [List.take_zero, List.drop_zero]; rfl
theorem As6 {a b : A7} (h : J7 a b = false) : J7 b a = true := by
  unfold J7 at *; simp only [decide_eq_true_eq, decide_eq_false_iff_not] at *; omega
theorem Ag7 {l : A7} : ∀ {u : List A7}, u.Pairwise (fun a b => J7 a b = true) → (L2 u l).Pairwise fun a b => J7 a b = true
  | [], _ => by simp [L2, V4]
  | x :: u, h => by
    rw [List.pairwise_cons] at h
    rw [Az7]
    cases hd : J7 x l with
    | true =>
      rw [if_pos rfl, List.pairwise_cons]
      refine ⟨fun y hy => ?_, Ag7 h.2⟩
      rcases AF3.1 hy with rfl | hy
      · exact hd
      · exact h.1 y hy
    | false =>
      rw [if_neg Bool.false_ne_true, List.pairwise_cons]
      refine ⟨fun y hy => ?_, List.pairwise_cons.2 h⟩
      rcases List.mem_cons.1 hy with rfl | hy
      · exact As6 hd
      · exact Al3 _ _ _ (As6 hd) (h.1 y hy)
theorem Az8 {n : D5} (h : goodNet n = true) (u : List A7) (l : A7) (hu : u.length ≤ 60 ∧ (∀ x ∈ u, isLetN n x = true) ∧ u.Pairwise fun a b => J7 a b = true) :
    goodNet (netU n (L2 u l)) = (isLetN n l && decide ((u.length : Int) < 60)) := by
  rw [Bool.eq_iff_iff, Bool.and_eq_true, decide_eq_true_eq]
  constructor
  · intro hg
    have := Ah9 hg
    rw [m1] at this
    exact ⟨this.2 l (AF3.2 (.inl rfl)), by omega⟩
  · rintro ⟨h1, h2⟩
    refine AD2 h (by rw [m1]; omega) (fun x hx => ?_) (Ag7 hu.2.2)
    rcases AF3.1 hx with rfl | hx
    · exact h1
    · exact hu.2.1 x hx
theorem Ad0 {n : D5} (h : goodNet n = true) (a b : Int) (s : Str) : P3 n a b s = if o2 n a b = true then ifNet n (L2 n.Under (Q9 n a b s)) else (T3, false) := by
  unfold P3 ifNet
  rw [Az8 h _ _ (J2 h)]
theorem AN4 {n : D5} {u : List A7} (h : (ifNet n u).2 = true) : goodNet (ifNet n u).1 = true ∧ (ifNet n u).1 = netU n u := by
  unfold ifNet at *
  split
  · rename_i hg; exact ⟨hg, rfl⟩
  · rename_i hg; rw [if_neg hg] at h; cases h
theorem s3 {n : D5} (h : goodNet n = true) {a b : Int} {s : Str} (hs : (P3 n a b s).2 = true) : goodNet (P3 n a b s).1 = true ∧ (P3 n a b s).1.Homes = n.Homes := by
  rw [Ad0 h] at hs ⊢
  split
  · rename_i hm
    rw [if_pos hm] at hs
    have := AN4 hs
    exact ⟨this.1, by rw [this.2]; rfl⟩
  · rename_i hm
    rw [if_neg hm] at hs; cases hs
theorem Ag8 {n : D5} (h : goodNet n = true) (a b : Int) (s : Str) : goodNet (Y9 n a b s) = true ∧ (Y9 n a b s).Homes = n.Homes := by
  unfold Y9
  split
  · rename_i hs; exact s3 h hs
  · exact ⟨h, rfl⟩
theorem Az9 (n : D5) (a : Int) (s : Str) : Y9 n a a s = n := by
  unfold Y9 P3 o2
  rw [if_neg (c := ((H2 n a && H2 n a) && (a != a)) = true) M8]
  exact if_neg Bool.false_ne_true
theorem j2 {n : D5} (h : goodNet n = true) (i : Nat) : (n.Under.eraseIdx i).length ≤ 60 ∧ (∀ x ∈ n.Under.eraseIdx i, isLetN n x = true) ∧ (n.Under.eraseIdx i).Pairwise fun a b => J7 a b = true := by
  obtain ⟨h1, h2, h3⟩ := J2 h
  have hs := List.eraseIdx_sublist (l := n.Under) (k := i)
  exact ⟨by have := hs.length_le; omega, fun x hx => h2 x (hs.subset hx), h3.sublist hs⟩
theorem m2 {n : D5} {i : Int} (h : o5 n i = true) : goodNet n = true ∧ 0 ≤ i ∧ i.toNat < n.Under.length ∧ n.Under[i.toNat]? = some (letAt n i) := by
  unfold o5 at h
  rw [Bool.and_eq_true, K4] at h
  have hl : i.toNat < n.Under.length := by omega
  exact ⟨h.1, h.2.1, hl, by unfold letAt; rw [List.getD_eq_getElem?_getD, List.getElem?_eq_getElem hl]; rfl⟩
theorem BA0 {n : D5} {i : Int} (h : (Z0 n i).2 = true) : goodNet (Z0 n i).1 = true ∧ (Z0 n i).1.Homes = n.Homes := by
  unfold Z0 at *
  split
  · rename_i hh
    obtain ⟨h1, _⟩ := m2 hh
    obtain ⟨a, b, c⟩ := j2 h1 i.toNat
    exact ⟨AD2 h1 a b c, rfl⟩
  · rename_i hh; rw [if_neg hh] at h; cases h
theorem Ap9 {n : D5} {i : Int} (h : (S8 n i).2 = true) : goodNet (S8 n i).1 = true ∧ (S8 n i).1.Homes = n.Homes := by
  unfold S8 at *
  split
  · rename_i hh
    rw [if_pos hh] at h
    have := AN4 h
    exact ⟨this.1, by rw [this.2]; rfl⟩
  · rename_i hh; rw [if_neg hh] at h; cases h
theorem Av9 {n : D5} {i by' : Int} (h : (V5 n i by').2 = true) : goodNet (V5 n i by').1 = true ∧ (V5 n i by').1.Homes = n.Homes := by
  unfold V5 at *
  split
  · rename_i hh
    rw [if_pos hh] at h
    have := AN4 h
    exact ⟨this.1, by rw [this.2]; rfl⟩
  · rename_i hh; rw [if_neg hh] at h; cases h
theorem AB9 {n : D5} (h : (tickN n).2 = true) : goodNet n = true ∧ goodNet (tickN n).1 = true ∧ (tickN n).1.Homes = n.Homes := by
  unfold tickN at *
  split
  · rename_i hh
    rw [Bool.and_eq_true, bne_iff_ne] at hh
    obtain ⟨h1, h2⟩ := hh
    refine ⟨h1, ?_, rfl⟩
    have hn := (N2 h1).1
    unfold goodNet at h1 ⊢
    simp only [Bool.and_eq_true, K4] at h1 ⊢
    exact ⟨⟨by omega, h1.1.2⟩, by rw [AZ7 (n := { n with Now := n.Now + 1 }) (m := n) rfl]; exact h1.2⟩
  · rename_i hh; rw [if_neg hh] at h; cases h
theorem AQ6 {n : D5} (h : goodNet n = true) : goodNet (U9 n) = true := by
  obtain ⟨h1, h2, h3⟩ := J2 h
  have hs := List.drop_sublist (AO4 n) n.Under
  exact AD2 h (by have := hs.length_le; omega) (fun x hx => h2 x (hs.subset hx)) (h3.sublist hs)
theorem Ad1 {n : D5} (h : goodNet n = true) {l : A7} (hl : l ∈ S0 n) : isLetN n l = true := (J2 h).2.1 l (List.mem_of_mem_take hl)
def ltI (a b : Int) : Bool := decide (a < b)
def T4 (l : List Int) (n : Int) : Bool := l.all (fun x => within x 0 (n - 1)) && adj ltI l
def AJ7 (x : A5) (v : Int) : Bool := x.Up && (x.For == v)
def goodVoter (x : A5) (v n : Int) : Bool := ((((within x.Term 0 200 && within x.For (-1) (n - 1)) && T4 x.Yes n) && (AJ7 x v || ((x.Yes.length : Int) == 0))) && (!x.Leads || (AJ7 x v && decide (n < 2 * (x.Yes.length : Int)))))
def votersOk (n : Int) : List A5 → Nat → Bool
  | [], _ => true
  | x :: l, i => goodVoter x (i : Int) n && votersOk n l (i + 1)
def V9 (n : Int) (w : G3) : Bool := within w.Term 1 200 && within w.Who 0 (n - 1)
def goodPoll (p : TPoll) : Bool :=
  (((goodNet p.Net && (((p.Net.Homes.length : Int) == 3) || ((p.Net.Homes.length : Int) == 5))) && ((p.Voters.length : Int) == (p.Net.Homes.length : Int))) && decide ((p.Won.length : Int) ≤ 60)) && (votersOk (p.Net.Homes.length : Int) p.Voters 0 && p.Won.all (V9 (p.Net.Homes.length : Int)))
def zVoter : A5 := ⟨false, 0, 0, [], false⟩
def C9 (p : TPoll) (v : Int) : A5 := p.Voters.getD v.toNat zVoter
def X2 : TPoll := ⟨[], T3, []⟩
def netP (p : TPoll) (n : D5) : TPoll := { p with Net := n }
def g8 (p : TPoll) (v : Int) (x : A5) : TPoll := { p with Voters := p.Voters.set v.toNat x }
def sendAll (n : D5) (v : Int) (s : Str) : Nat → D5
  | 0 => n
  | k + 1 => Y9 (sendAll n v s k) v (k : Int) s
def hasV (p : TPoll) (v : Int) : Bool := goodPoll p && H2 p.Net v
def n2 (p : TPoll) (v : Int) : A5 := ⟨true, (C9 p v).Term + 1, v, [v], false⟩
def e8 (p : TPoll) (v : Int) : Bool := (hasV p v && (C9 p v).Up) && ((C9 p v).Term != 200)
def P8 (ta : Int → Str) (p : TPoll) (v : Int) : TPoll × Bool := if e8 p v = true then (netP (g8 p v (n2 p v)) (sendAll p.Net v (ta ((C9 p v).Term + 1)) p.Voters.length), true) else (X2, false)
def fallV (x : A5) : A5 := ⟨!x.Up, x.Term, x.For, [], false⟩
def S9 (p : TPoll) (v : Int) : TPoll × Bool := if hasV p v = true then (g8 p v (fallV (C9 p v)), true) else (X2, false)
def askV (x : A5) (t : Int) : A5 := if x.Term < t then ⟨true, t, -1, [], false⟩ else x
def AG8 (x : A5) (t a : Int) : Bool := (x.Term == t) && ((x.For == -1) || (x.For == a))
def e9 (ty : Int → Str) (p : TPoll) (l : A7) (t : Int) : TPoll :=
  if AG8 (askV (C9 p l.To) t) t l.From = true then netP (g8 p l.To { askV (C9 p l.To) t with For := l.From }) (Y9 p.Net l.To l.From (ty t)) else g8 p l.To (askV (C9 p l.To) t)
def f0 (l : List Int) (n : Int) : List Int := if l.any (fun x => x == n) = true then l else l.takeWhile (fun x => decide (x < n)) ++ n :: l.dropWhile (fun x => decide (x < n))
def U4 (x : A5) (v t : Int) : Bool := (x.Term == t) && (x.For == v)
def P9 (x : A5) (a : Int) : A5 := { x with Yes := f0 x.Yes a }
def wins (x : A5) (n : Nat) : Bool := decide ((n : Int) < 2 * (x.Yes.length : Int)) && !x.Leads
def yesP (p : TPoll) (l : A7) (t : Int) : TPoll :=
  if U4 (C9 p l.To) l.To t = true then
    (if wins (P9 (C9 p l.To) l.From) p.Voters.length = true then
      ⟨p.Voters.set l.To.toNat { P9 (C9 p l.To) l.From with Leads := true }, p.Net, if (p.Won.length : Int) < 60 then p.Won ++ [⟨t, l.To⟩] else p.Won⟩
    else g8 p l.To (P9 (C9 p l.To) l.From))
  else p
def d5 (rd : Str → Option Int) (ty : Int → Str) (p : TPoll) (l : A7) : TPoll := match rd (l.Body.drop 1) with
  | none => p
  | some t => if (C9 p l.To).Up = true then (if l.Body.head? = some 97 then e9 ty p l t else if l.Body.head? = some 121 then yesP p l t else p) else p
def tickP (rd : Str → Option Int) (ty : Int → Str) (p : TPoll) : TPoll × Bool := if (goodPoll p && (p.Net.Now != 100000)) = true then ((S0 (tickN p.Net).1).foldl (d5 rd ty) (netP p (U9 (tickN p.Net).1)), true) else (X2, false)
def W0 (p : TPoll) (x : D5 × Bool) : TPoll × Bool := (netP p x.1, x.2)
def doP (rd : Str → Option Int) (ta ty : Int → Str) (p : TPoll) (a : F7) : TPoll × Bool :=
  if a.Kind = 1 then P8 ta p a.Who else if a.Kind = 2 then S9 p a.Who else if a.Kind = 3 then tickP rd ty p
  else if a.Kind = 4 then W0 p (Z0 p.Net a.Who) else if a.Kind = 5 then W0 p (S8 p.Net a.Who) else if a.Kind = 6 then W0 p (V5 p.Net a.Who a.By) else W0 p (T3, false)
def AI9 (rd : Str → Option Int) (ta ty : Int → Str) (p : TPoll) (a : F7) : TPoll := if (doP rd ta ty p a).2 = true then (doP rd ta ty p a).1 else p
structure GP (p : TPoll) : Prop where
  net : goodNet p.Net = true
  many : (p.Net.Homes.length : Int) = 3 ∨ (p.Net.Homes.length : Int) = 5
  len : p.Voters.length = p.Net.Homes.length
  won : p.Won.length ≤ 60
  voters : ∀ (i : Nat) (x : A5), p.Voters[i]? = some x → goodVoter x (i : Int) (p.Net.Homes.length : Int) = true
  wons : ∀ w ∈ p.Won, V9 (p.Net.Homes.length : Int) w = true
theorem AF4 {n : Int} : ∀ {l : List A5} {k : Nat}, votersOk n l k = true ↔ ∀ (i : Nat) (x : A5), l[i]? = some x → goodVoter x ((k + i : Nat) : Int) n = true
  | [], k => ⟨fun _ i x h => (by cases h), fun _ => rfl⟩
  | y :: l, k => by
    unfold votersOk
    rw [Bool.and_eq_true, AF4]
    constructor
    · rintro ⟨h1, h2⟩ i x hx
      cases i with
      | zero => injection hx with hx; subst hx; exact h1
      | succ i => rw [show k + (i + 1) = k + 1 + i by omega]; exact h2 i x (by simpa using hx)
    · intro h
      exact ⟨h 0 y rfl, fun i x hx => by rw [show k + 1 + i = k + (i + 1) by omega]; exact h (i + 1) x (by simpa using hx)⟩
theorem U1 {p : TPoll} : goodPoll p = true ↔ GP p := by
  unfold goodPoll
  simp only [Bool.and_eq_true, Bool.or_eq_true, beq_iff_eq, decide_eq_true_eq, AF4, List.all_eq_true, Nat.zero_add]
  constructor
  · rintro ⟨⟨⟨⟨h1, h2⟩, h3⟩, h4⟩, h5, h6⟩
    exact ⟨h1, h2, by omega, by omega, h5, h6⟩
  · rintro ⟨h1, h2, h3, h4, h5, h6⟩
    exact ⟨⟨⟨⟨h1, h2⟩, by omega⟩, by omega⟩, h5, h6⟩
theorem n6 {p : TPoll} (g : GP p) {v : Int} (h : H2 p.Net v = true) : 0 ≤ v ∧ v.toNat < p.Voters.length ∧ p.Voters[v.toNat]? = some (C9 p v) ∧ ((v.toNat : Nat) : Int) = v := by
  unfold H2 at h
  rw [K4] at h
  have := g.len
  have hl : v.toNat < p.Voters.length := by omega
  exact ⟨h.1, hl, by unfold C9; rw [List.getD_eq_getElem?_getD, List.getElem?_eq_getElem hl]; rfl, by omega⟩
theorem c1 {p : TPoll} (g : GP p) {v : Int} (h : H2 p.Net v = true) : goodVoter (C9 p v) v (p.Net.Homes.length : Int) = true := by
  obtain ⟨_, _, h3, h4⟩ := n6 g h
  have := g.voters _ _ h3
  rwa [h4] at this
theorem y9 {p : TPoll} (g : GP p) {v : Int} (h : H2 p.Net v = true) {x : A5} (hx : goodVoter x v (p.Net.Homes.length : Int) = true) : GP (g8 p v x) := by
  obtain ⟨_, hl, _, h4⟩ := n6 g h
  refine ⟨g.net, g.many, by show (p.Voters.set _ _).length = _; rw [List.length_set]; exact g.len, g.won, fun i y hy => ?_, g.wons⟩
  have hy2 : (p.Voters.set v.toNat x)[i]? = some y := hy
  rw [List.getElem?_set] at hy2
  split at hy2
  · rename_i e
    subst e
    injection hy2 with hy2; subst hy2
    rw [h4]; exact hx
  · exact g.voters i y hy2
theorem g9 {p : TPoll} (g : GP p) {n : D5} (h : goodNet n = true) (hh : n.Homes = p.Net.Homes) : GP (netP p n) :=
  ⟨h, by show (n.Homes.length : Int) = 3 ∨ (n.Homes.length : Int) = 5; rw [hh]; exact g.many, by show _ = n.Homes.length; rw [hh]; exact g.len, g.won, fun i x hx => by show goodVoter x i (n.Homes.length : Int) = true; rw [hh]; exact g.voters i x hx, fun w hw => by show V9 (n.Homes.length : Int) w = true; rw [hh]; exact g.wons w hw⟩
theorem u9 {n : D5} (h : goodNet n = true) (v : Int) (s : Str) : ∀ k, goodNet (sendAll n v s k) = true ∧ (sendAll n v s k).Homes = n.Homes
  | 0 => ⟨h, rfl⟩
  | k + 1 => by
    obtain ⟨h1, h2⟩ := u9 h v s k
    obtain ⟨h3, h4⟩ := Ag8 h1 v (k : Int) s
    exact ⟨h3, h4.trans h2⟩
def LeV (a b : A5) : Prop := a.Term ≤ b.Term ∧ (a.Term = b.Term → 0 ≤ a.For → b.For = a.For)
theorem LeV.refl (a : A5) : LeV a a := ⟨Int.le_refl _, fun _ _ => rfl⟩
theorem LeV.trans {a b c : A5} (h : LeV a b) (k : LeV b c) : LeV a c := ⟨Int.le_trans h.1 k.1, fun e f => by
  have h1 : a.Term = b.Term := by have := h.1; have := k.1; omega
  have h2 := h.2 h1 f
  rw [k.2 qz6 (by rw [h2]; exact f), h2]⟩
def LeP (p q : TPoll) : Prop := p.Voters.length = q.Voters.length ∧ ∀ (i : Nat) (a b : A5), p.Voters[i]? = some a → q.Voters[i]? = some b → LeV a b
theorem LeP.refl (p : TPoll) : LeP p p := ⟨rfl, fun i a b ha hb => by rw [ha] at hb; injection hb with hb; subst hb; exact LeV.refl a⟩
theorem LeP.trans {p q r : TPoll} (h : LeP p q) (k : LeP q r) : LeP p r := ⟨h.1.trans k.1, fun i a c ha hc => by
  have hi : i < q.Voters.length := by rw [← h.1]; exact (List.getElem?_eq_some_iff.1 ha).1
  exact (h.2 i a _ ha (List.getElem?_eq_getElem hi)).trans (k.2 i _ c (List.getElem?_eq_getElem hi) hc)⟩
theorem AE2 {p : TPoll} (g : GP p) {v : Int} (h : H2 p.Net v = true) {x : A5} (hx : LeV (C9 p v) x) : LeP p (g8 p v x) := by
  obtain ⟨_, hl, h3, _⟩ := n6 g h
  refine ⟨(List.length_set ..).symm, fun i a b ha hb => ?_⟩
  have hb2 : (p.Voters.set v.toNat x)[i]? = some b := hb
  rw [List.getElem?_set] at hb2
  split at hb2
  · rename_i e
    subst e
    injection hb2 with hb2; subst hb2
    rw [h3] at ha; injection ha with ha; subst ha; exact hx
  · rw [ha] at hb2; injection hb2 with hb2; subst hb2; exact LeV.refl a
theorem AE3 (p : TPoll) (n : D5) : LeP p (netP p n) := LeP.refl p
theorem BA1 {v n : Int} (h : 0 ≤ v ∧ v ≤ n - 1) : T4 [v] n = true := by
  unfold T4
  rw [Bool.and_eq_true]
  exact ⟨by rw [List.all_cons, List.all_nil, Bool.and_true, K4]; exact h, rfl⟩
theorem K3 {x : A5} {v n : Int} : goodVoter x v n = true ↔ (0 ≤ x.Term ∧ x.Term ≤ 200) ∧ (-1 ≤ x.For ∧ x.For ≤ n - 1) ∧ T4 x.Yes n = true ∧ ((x.Up = true ∧ x.For = v) ∨ x.Yes = []) ∧ (x.Leads = true → (x.Up = true ∧ x.For = v) ∧ n < 2 * (x.Yes.length : Int)) := by
  unfold goodVoter AJ7
  simp only [Bool.and_eq_true, Bool.or_eq_true, K4, beq_iff_eq, Bool.not_eq_true', decide_eq_true_eq]
  constructor
  · rintro ⟨⟨⟨⟨h1, h2⟩, h3⟩, h4⟩, h5⟩
    refine ⟨h1, h2, h3, ?_, fun hl => ?_⟩
    · rcases h4 with h4 | h4
      · exact .inl h4
      · exact .inr (List.eq_nil_of_length_eq_zero qz6)
    · rcases h5 with h5 | h5
      · rw [h5] at hl; cases hl
      · exact h5
  · rintro ⟨h1, h2, h3, h4, h5⟩
    refine ⟨⟨⟨⟨h1, h2⟩, h3⟩, ?_⟩, ?_⟩
    · rcases h4 with h4 | h4
      · exact .inl h4
      · exact .inr (by rw [h4]; rfl)
    · cases hl : x.Leads with
      | false => exact .inl rfl
      | true => exact .inr (h5 hl)
theorem AQ7 (n : Int) : T4 [] n = true := rfl
theorem AF5 {n : D5} {v : Int} : H2 n v = true ↔ 0 ≤ v ∧ v ≤ (n.Homes.length : Int) - 1 := K4
theorem stand_ok {ta : Int → Str} {p : TPoll} {v : Int} (h : (P8 ta p v).2 = true) : GP p ∧ GP (P8 ta p v).1 ∧ LeP p (P8 ta p v).1 := by
  unfold P8 at *
  split
  · rename_i hm
    unfold e8 hasV at hm
    simp only [Bool.and_eq_true, bne_iff_ne] at hm
    obtain ⟨⟨⟨hg, hn⟩, hu⟩, ht⟩ := hm
    have g := U1.1 hg
    have hv := K3.1 (c1 g hn)
    have hnd := AF5.1 hn
    have hs : goodVoter (n2 p v) v (p.Net.Homes.length : Int) = true := K3.2 ⟨⟨by unfold n2; dsimp only; omega, by unfold n2; dsimp only; omega⟩, ⟨by unfold n2; dsimp only; omega, hnd.2⟩, BA1 hnd, .inl ⟨rfl, rfl⟩, fun h => by cases h⟩
    have g2 := y9 g hn hs
    obtain ⟨h1, h2⟩ := u9 (v := v) (s := ta ((C9 p v).Term + 1)) g.net p.Voters.length
    exact ⟨g, g9 g2 h1 h2, (AE2 g hn ⟨by unfold n2; dsimp only; omega, fun e => by unfold n2 at e; dsimp only at e; omega⟩).trans (AE3 _ _)⟩
  · rename_i hm; rw [if_neg hm] at h; cases h
theorem fall_ok {p : TPoll} {v : Int} (h : (S9 p v).2 = true) : GP p ∧ GP (S9 p v).1 ∧ LeP p (S9 p v).1 := by
  unfold S9 at *
  split
  · rename_i hm
    unfold hasV at hm
    rw [Bool.and_eq_true] at hm
    have g := U1.1 hm.1
    have hv := K3.1 (c1 g hm.2)
    exact ⟨g, y9 g hm.2 (K3.2 ⟨hv.1, hv.2.1, AQ7 _, .inr rfl, fun h => by cases h⟩), AE2 g hm.2 ⟨Int.le_refl _, fun _ _ => rfl⟩⟩
  · rename_i hm; rw [if_neg hm] at h; cases h
theorem AH9 (a b c : Int) (h1 : ltI a b = true) (h2 : ltI b c = true) : ltI a c = true := by unfold ltI at *; simp only [decide_eq_true_eq] at *; omega
theorem put_mem {l : List Int} {n x : Int} : x ∈ f0 l n ↔ x = n ∨ x ∈ l := by
  unfold f0
  split
  · rename_i h
    rw [List.any_eq_true] at h
    obtain ⟨y, hy, e⟩ := h
    have e : y = n := by simpa using e
    subst e
    exact ⟨.inr, fun h => by rcases h with rfl | h; exact hy; exact h⟩
  · have := List.takeWhile_append_dropWhile (p := fun x => decide (x < n)) (l := l)
    rw [List.mem_append, List.mem_cons]
    constructor
    · rintro (h | h | h)
      · exact .inr (by rw [← this]; exact List.mem_append.2 (.inl h))
      · exact .inl h
      · exact .inr (by rw [← this]; exact List.mem_append.2 (.inr h))
    · rintro (h | h)
      · exact .inr (.inl h)
      · rw [← this, List.mem_append] at h
        rcases h with h | h
        · exact .inl h
        · exact .inr (.inr h)
theorem AT4 (l : List Int) (n : Int) : l.length ≤ (f0 l n).length ∧ (f0 l n).length ≤ l.length + 1 := by
  unfold f0
  split
  · omega
  · have := congrArg List.length (List.takeWhile_append_dropWhile (p := fun x => decide (x < n)) (l := l))
    rw [H6] at this
    rw [H6, J9]; omega
theorem Al5 {n : Int} : ∀ {l : List Int}, l.Pairwise (fun a b => ltI a b = true) → (∀ x ∈ l, x ≠ n) → (l.takeWhile (fun x => decide (x < n)) ++ n :: l.dropWhile (fun x => decide (x < n))).Pairwise fun a b => ltI a b = true
  | [], _, _ => by simp
  | x :: l, h, hn => by
    rw [List.pairwise_cons] at h
    rw [List.takeWhile_cons, List.dropWhile_cons]
    have hxn := hn x List.mem_cons_self
    by_cases e : x < n
    · rw [if_pos (decide_eq_true e), if_pos (decide_eq_true e), AL6, List.pairwise_cons]
      refine ⟨fun y hy => ?_, Al5 h.2 fun y hy => hn y (List.mem_cons_of_mem _ hy)⟩
      rw [List.mem_append, List.mem_cons] at hy
      rcases hy with hy | rfl | hy
      · exact h.1 y ((List.takeWhile_prefix _).sublist.subset hy)
      · unfold ltI; exact decide_eq_true e
      · exact h.1 y ((List.dropWhile_suffix _).sublist.subset hy)
    · have e2 : ¬ decide (x < n) = true := by simpa using e
      rw [if_neg e2, if_neg e2, List.nil_append, List.pairwise_cons]
      refine ⟨fun y hy => ?_, List.pairwise_cons.2 h⟩
      have hnx : ltI n x = true := by unfold ltI; exact decide_eq_true qz6
      rcases List.mem_cons.1 hy with rfl | hy
      · exact hnx
      · exact AH9 _ _ _ hnx (h.1 y hy)
theorem BA2 {l : List Int} {m n : Int} (h : T4 l m = true) (hn : 0 ≤ n ∧ n ≤ m - 1) : T4 (f0 l n) m = true := by
  unfold T4 at *
  rw [Bool.and_eq_true, List.all_eq_true] at *
  refine ⟨fun x hx => ?_, ?_⟩
  · rcases put_mem.1 hx with rfl | hx
    · exact K4.2 hn
    · exact h.1 x hx
  · unfold f0
    split
    · exact h.2
    · rename_i ha
      refine (AF2 AH9).2 (Al5 ((AF2 AH9).1 h.2) fun x hx e => ha ?_)
      rw [List.any_eq_true]
      exact ⟨x, hx, by simp [e]⟩
theorem AZ8 {ty : Int → Str} {p : TPoll} (g : GP p) {l : A7} {t : Int} (hl : isLetN p.Net l = true) (ht : 1 ≤ t ∧ t ≤ 200) : GP (e9 ty p l t) ∧ LeP p (e9 ty p l t) ∧ (e9 ty p l t).Net.Homes = p.Net.Homes := by
  unfold isLetN at hl
  simp only [Bool.and_eq_true, bne_iff_ne] at hl
  obtain ⟨⟨⟨⟨hf, hto⟩, hne⟩, _⟩, _⟩ := hl
  have hv := K3.1 (c1 g hto)
  have hfn := AF5.1 hf
  have ha : goodVoter (askV (C9 p l.To) t) l.To (p.Net.Homes.length : Int) = true := by
    unfold askV
    split
    · exact K3.2 ⟨⟨by dsimp only; omega, ht.2⟩, ⟨Int.le_refl _, by dsimp only; omega⟩, AQ7 _, .inr rfl, fun h => by cases h⟩
    · exact c1 g hto
  have hle : LeV (C9 p l.To) (askV (C9 p l.To) t) := by
    unfold askV
    split
    · rename_i h; exact ⟨by dsimp only; omega, fun e => by dsimp only at e; omega⟩
    · exact LeV.refl _
  unfold e9
  split
  · rename_i hw
    unfold AG8 at hw
    rw [Bool.and_eq_true, Bool.or_eq_true, beq_iff_eq, beq_iff_eq, beq_iff_eq] at hw
    have hq := K3.1 ha
    have h2 : goodVoter { askV (C9 p l.To) t with For := l.From } l.To (p.Net.Homes.length : Int) = true := by
      rcases hw.2 with h | h
      · have hno : ¬ ((askV (C9 p l.To) t).Up = true ∧ (askV (C9 p l.To) t).For = l.To) := fun k => by have := AF5.1 hto; omega
        refine K3.2 ⟨hq.1, ⟨by dsimp only; omega, hfn.2⟩, hq.2.2.1, .inr (hq.2.2.2.1.resolve_left hno), fun k => absurd (hq.2.2.2.2 k).1 hno⟩
      · have e : { askV (C9 p l.To) t with For := l.From } = askV (C9 p l.To) t := by rw [← h]
        rw [e]; exact ha
    have hs := Ag8 g.net l.To l.From (ty t)
    have h3 : LeV (askV (C9 p l.To) t) { askV (C9 p l.To) t with For := l.From } := ⟨Int.le_refl _, fun _ hf2 => by
      rcases hw.2 with h | h
      · omega
      · exact h.symm⟩
    exact ⟨g9 (y9 g hto h2) hs.1 hs.2, (AE2 g hto (hle.trans h3)).trans (AE3 _ _), hs.2⟩
  · exact ⟨y9 g hto ha, AE2 g hto hle, rfl⟩
theorem AZ9 {p : TPoll} (g : GP p) {l : A7} {t : Int} (hl : isLetN p.Net l = true) (ht : 1 ≤ t ∧ t ≤ 200) (hu : (C9 p l.To).Up = true) : GP (yesP p l t) ∧ LeP p (yesP p l t) ∧ (yesP p l t).Net.Homes = p.Net.Homes := by
  unfold isLetN at hl
  simp only [Bool.and_eq_true, bne_iff_ne] at hl
  obtain ⟨⟨⟨⟨hf, hto⟩, hne⟩, _⟩, _⟩ := hl
  have hv := K3.1 (c1 g hto)
  have hfn := AF5.1 hf
  unfold yesP
  split
  · rename_i hm
    unfold U4 at hm
    rw [Bool.and_eq_true, beq_iff_eq, beq_iff_eq] at hm
    have hr := BA2 hv.2.2.1 hfn
    have hpl := AT4 (C9 p l.To).Yes l.From
    have hy : goodVoter (P9 (C9 p l.To) l.From) l.To (p.Net.Homes.length : Int) = true := K3.2 ⟨hv.1, hv.2.1, hr, .inl ⟨hu, hm.2⟩, fun k => ⟨⟨hu, hm.2⟩, by have := (hv.2.2.2.2 k).2; show _ < 2 * ((f0 (C9 p l.To).Yes l.From).length : Int); omega⟩⟩
    split
    · rename_i hw
      unfold wins at hw
      rw [Bool.and_eq_true, decide_eq_true_eq] at hw
      have hgl := g.len
      have h2 : goodVoter { P9 (C9 p l.To) l.From with Leads := true } l.To (p.Net.Homes.length : Int) = true := K3.2 ⟨hv.1, hv.2.1, hr, .inl ⟨hu, hm.2⟩, fun _ => ⟨⟨hu, hm.2⟩, by have := hw.1; show _ < 2 * ((P9 (C9 p l.To) l.From).Yes.length : Int); omega⟩⟩
      have g2 := y9 g hto h2
      refine ⟨⟨g2.net, g2.many, g2.len, ?_, g2.voters, ?_⟩, AE2 g hto ⟨Int.le_refl _, fun _ _ => rfl⟩, rfl⟩
      · show (if (p.Won.length : Int) < 60 then p.Won ++ [⟨t, l.To⟩] else p.Won).length ≤ 60
        split
        · rw [H6]; simp only [J9, Z3]; omega
        · exact g.won
      · intro w hw2
        have hw3 : w ∈ (if (p.Won.length : Int) < 60 then p.Won ++ [⟨t, l.To⟩] else p.Won) := hw2
        split at hw3
        · rcases List.mem_append.1 hw3 with h | h
          · exact g.wons w h
          · rw [List.mem_singleton.1 h]
            unfold V9
            rw [Bool.and_eq_true, K4, K4]
            exact ⟨ht, AF5.1 hto⟩
        · exact g.wons w hw3
    · exact ⟨y9 g hto hy, AE2 g hto ⟨Int.le_refl _, fun _ _ => rfl⟩, rfl⟩
  · exact ⟨g, LeP.refl p, rfl⟩
def Ae8 (rd : Str → Option Int) : Prop := ∀ s t, rd s = some t → 1 ≤ t ∧ t ≤ 200
theorem Ad2 {rd : Str → Option Int} {ty : Int → Str} (hrd : Ae8 rd) {p : TPoll} (g : GP p) {l : A7} (hl : isLetN p.Net l = true) : GP (d5 rd ty p l) ∧ LeP p (d5 rd ty p l) ∧ (d5 rd ty p l).Net.Homes = p.Net.Homes := by
  unfold d5
  split
  · exact ⟨g, LeP.refl p, rfl⟩
  · rename_i t ht
    have h1 := hrd _ _ ht
    split
    · rename_i hu
      split
      · exact AZ8 g hl h1
      · split
        · exact AZ9 g hl h1 hu
        · exact ⟨g, LeP.refl p, rfl⟩
    · exact ⟨g, LeP.refl p, rfl⟩
theorem Al6 {rd : Str → Option Int} {ty : Int → Str} (hrd : Ae8 rd) : ∀ {ls : List A7} {p : TPoll}, GP p → (∀ l ∈ ls, isLetN p.Net l = true) → GP (ls.foldl (d5 rd ty) p) ∧ LeP p (ls.foldl (d5 rd ty) p) ∧ (ls.foldl (d5 rd ty) p).Net.Homes = p.Net.Homes
  | [], p, g, _ => ⟨g, LeP.refl p, rfl⟩
  | l :: ls, p, g, h => by
    obtain ⟨h1, h2, h3⟩ := Ad2 (ty := ty) hrd g (h l List.mem_cons_self)
    obtain ⟨h4, h5, h6⟩ := Al6 hrd (ls := ls) h1 fun x hx => by rw [f6 h3]; exact h x (List.mem_cons_of_mem _ hx)
    exact ⟨h4, h2.trans h5, h6.trans h3⟩
theorem tickP_ok {rd : Str → Option Int} {ty : Int → Str} (hrd : Ae8 rd) {p : TPoll} (h : (tickP rd ty p).2 = true) : GP p ∧ GP (tickP rd ty p).1 ∧ LeP p (tickP rd ty p).1 := by
  unfold tickP at *
  split
  · rename_i hm
    rw [Bool.and_eq_true] at hm
    have g := U1.1 hm.1
    have ht : (tickN p.Net).2 = true := by unfold tickN; rw [if_pos (by rw [g.net, hm.2]; rfl)]
    obtain ⟨_, h1, h2⟩ := AB9 ht
    have g2 := g9 g (AQ6 h1) h2
    have := Al6 (ty := ty) hrd g2 (ls := S0 (tickN p.Net).1) fun l hl => by rw [show isLetN (netP p (U9 (tickN p.Net).1)).Net l = isLetN (tickN p.Net).1 l from f6 rfl l]; exact Ad1 h1 hl
    exact ⟨g, this.1, (AE3 _ _).trans this.2.1⟩
  · rename_i hm; rw [if_neg hm] at h; cases h
theorem do_ok8 {rd : Str → Option Int} {ta ty : Int → Str} (hrd : Ae8 rd) {p : TPoll} (g : GP p) {a : F7} (h : (doP rd ta ty p a).2 = true) : GP (doP rd ta ty p a).1 ∧ LeP p (doP rd ta ty p a).1 := by
  unfold doP at *
  split
  · rename_i e; rw [if_pos e] at h; exact (stand_ok h).2
  · rename_i e1; rw [if_neg e1] at h
    split
    · rename_i e; rw [if_pos e] at h; exact (fall_ok h).2
    · rename_i e2; rw [if_neg e2] at h
      split
      · rename_i e; rw [if_pos e] at h; exact (tickP_ok hrd h).2
      · rename_i e3; rw [if_neg e3] at h
        split
        · rename_i e; rw [if_pos e] at h; have := BA0 h; exact ⟨g9 g this.1 this.2, AE3 _ _⟩
        · rename_i e4; rw [if_neg e4] at h
          split
          · rename_i e; rw [if_pos e] at h; have := Ap9 h; exact ⟨g9 g this.1 this.2, AE3 _ _⟩
          · rename_i e5; rw [if_neg e5] at h
            split
            · rename_i e; rw [if_pos e] at h; have := Av9 h; exact ⟨g9 g this.1 this.2, AE3 _ _⟩
            · rename_i e6; rw [if_neg e6] at h; cases h
theorem AF6 {rd : Str → Option Int} {ta ty : Int → Str} (hrd : Ae8 rd) {p : TPoll} (g : GP p) (a : F7) : GP (AI9 rd ta ty p a) ∧ LeP p (AI9 rd ta ty p a) := by
  unfold AI9
  split
  · rename_i h; exact do_ok8 hrd g h
  · exact ⟨g, LeP.refl p⟩
end Go.M
namespace Go.Proofs.YtkibefcceekmnaaGreatDoor
open Go Go.AV Go.M
attribute [local irreducible] OpW OpA OpS AWP D3 P2 RetOk M3 Le Ev I4
theorem O7 (a b c : Int) : D3 Tryz.prog 22 [AV.int a, AV.int b, AV.int c] (AV.bool (within a b c)) := by
  refine C6 Tryz.func22 rfl Tryz.ntmps22 rfl ?_
  refine R17 ?_
  exact H5 rfl (A8 rfl W8)
theorem O0 (a b c : Int) : D3 Tryz.prog 35 [AV.int a, AV.int b, AV.int c] (AV.bool (within a b c)) := by
  refine C6 Tryz.func35 rfl Tryz.ntmps35 rfl ?_
  refine R17 ?_
  exact H5 rfl (A8 rfl W8)
theorem K4 {a b c : Int} (h : within a b c = true) : b ≤ a ∧ a ≤ c := by
  simp only [within, Bool.and_eq_true, decide_eq_true_eq] at h; exact h
end Go.Proofs.YtkibefcceekmnaaGreatDoor
