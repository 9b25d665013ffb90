/- Rules: own arrays told by their address; slices as values; copy, append of zeros, what lies behind the end. -/
import Derived.Test.YteliahajeokciaaAvS
import Derived.Lib.AppendZerosOnto
import Derived.Lib.Overlaps
set_option linter.unusedVariables false
set_option linter.unusedSimpArgs false
namespace Go.AV
open Go.RowKit (Below)
section
variable {P : Program} {G : Nat → Prop} {n : Nat} {own : List Own} {o : Oper} {E : EnvF}
theorem awp_form {c : Code} {Q : Exit → AState → Prop} {env : List (Nat × AV)} {v : Value} {e : TypeId} {sz : Nat} {es : List (List AV)} (i : Nat) (hi : own[i]? = some (.arr v e sz es)) (k1 : v = .slice none 0 0 → es = [] → AWP P G n c Q ⟨own, env⟩)
    (k2 : ∀ g cap, v = .slice (some ⟨g, 0, none⟩) es.length cap → es.length ≤ cap → cap ≤ 9223372036854775807 → AWP P G n c Q ⟨own, env⟩) : AWP P G n c Q ⟨own, env⟩ := fun w0 R0 R a w hs => by
  obtain ⟨_, _, xs, hown, _⟩ := hs.1.owned _ (List.mem_of_getElem? hi)
  rcases hown.2 with ⟨h1, h2⟩ | ⟨g, cap, cur, h1, _, _, hn, hm, _⟩
  · exact k1 h1 (List.eq_nil_of_length_eq_zero h2) w0 R0 R a w hs
  · exact k2 g cap h1 hn (by unfold maxLen at hm; omega) w0 R0 R a w hs
/-- A slice as a value. -/
abbrev slv (g len cap : Nat) : Value := .slice (some ⟨g, 0, none⟩) len cap
section vals
variable {t e : TypeId} {p q q' q'' : Operand} {g len cap sz : Nat}
theorem w_vlen {oa : Option Addr} (ho : o.op = .call { callee := .builtin .len, args := #[p], argTypes := #[t] }) (ht : P.underlying t = some (.slice e)) (hp : Ev E p (AV.is (.slice oa len cap))) : OpW P G n own o E (AV.int len) := opW_val fun R a w _ he => by
  have h1 : a.eval p = _ := ev_use hp (by simp [ho, Op.operands, Call.operands]) he
  have hel : P.elem t = e := by simp [Program.elem, ht]
  have h2 := run_len_slice (P := P) w t o.type oa len cap (by rw [hel]; exact ht)
  exact ⟨.int .i64 len, by simp only [execOp, ho, resolve, invoke, builtin, List.map_toArray, List.map_cons, List.map_nil, h1, h2, Sem.run_bind, Sem.run_pure, Result.andThen_ok, goInt], rfl⟩
theorem w_vcap {oa : Option Addr} (ho : o.op = .call { callee := .builtin .cap, args := #[p], argTypes := #[t] }) (ht : P.underlying t = some (.slice e)) (hp : Ev E p (AV.is (.slice oa len cap))) : OpW P G n own o E (AV.int cap) := opW_val fun R a w _ he => by
  have h1 : a.eval p = _ := ev_use hp (by simp [ho, Op.operands, Call.operands]) he
  have hel : P.elem t = e := by simp [Program.elem, ht]
  have h2 := run_cap_slice (P := P) w t o.type oa len cap (by rw [hel]; exact ht)
  exact ⟨.int .i64 cap, by simp only [execOp, ho, resolve, invoke, builtin, List.map_toArray, List.map_cons, List.map_nil, h1, h2, Sem.run_bind, Sem.run_pure, Result.andThen_ok, goInt], rfl⟩
theorem sliced_head (g hi cap sz : Nat) : sliced (some ⟨g, 0, none⟩) 0 hi cap sz = slv g hi cap := by
  unfold sliced
  by_cases hc : cap = 0
  · simp [hc]
  · simp [hc, Addr.add]
theorem w_vhi {hi : Int} (ho : o.op = .slice t p none (some q) none) (ht : P.underlying t = some (.slice e)) (hsz : ∀ w, (sizeOf e).run P w = .ok sz w) (hp : Ev E p (AV.is (slv g len cap))) (hq : Ev E q (AV.int hi)) (h0 : 0 ≤ hi) (h1 : hi ≤ cap) : OpW P G n own o E (AV.is (slv g hi.toNat cap)) := opW_val fun R a w _ he => by
  have e1 : a.eval p = _ := ev_use hp (by simp [ho, Op.operands]) he
  have e2 : a.eval q = .int .i64 hi := ev_use hq (by simp [ho, Op.operands]) he
  have hel : P.elem t = e := by simp [Program.elem, ht]
  have hr1 := run_slice_h (P := P) (w := w) (t := t) (a := some ⟨g, 0, none⟩) (len := len) (cap := cap) (by rw [hel]; exact ht) .i64 hi h0 h1
  rw [hel, hsz, Result.andThen_ok, sliced_head] at hr1
  exact ⟨_, by simp only [execOp, ho, e1, e2, Option.map_some, Option.map_none, run_sliceAt_slice w t _ _ _ _ (by rw [hel]; exact ht), hr1, Sem.run_bind, Sem.run_pure, Result.andThen_ok], rfl⟩
theorem w_vlo {lo : Int} (ho : o.op = .slice t p (some q) none none) (ht : P.underlying t = some (.slice e)) (hsz : ∀ w, (sizeOf e).run P w = .ok sz w) (hp : Ev E p (AV.is (slv g len cap))) (hq : Ev E q (AV.int lo)) (h0 : 0 ≤ lo) (h1 : lo ≤ len) : OpW P G n own o E (AV.is (sliced (some ⟨g, 0, none⟩) lo.toNat len cap sz)) := opW_val fun R a w _ he => by
  have e1 : a.eval p = _ := ev_use hp (by simp [ho, Op.operands]) he
  have e2 : a.eval q = .int .i64 lo := ev_use hq (by simp [ho, Op.operands]) he
  have hel : P.elem t = e := by simp [Program.elem, ht]
  have hr1 := run_slice_l (P := P) (w := w) (t := t) (a := some ⟨g, 0, none⟩) (len := len) (cap := cap) (by rw [hel]; exact ht) .i64 lo h0 h1
  rw [hel, hsz, Result.andThen_ok] at hr1
  exact ⟨_, by simp only [execOp, ho, e1, e2, Option.map_some, Option.map_none, run_sliceAt_slice w t _ _ _ _ (by rw [hel]; exact ht), hr1, Sem.run_bind, Sem.run_pure, Result.andThen_ok], rfl⟩
theorem w_vlohi {lo hi : Int} (ho : o.op = .slice t p (some q) (some q') none) (ht : P.underlying t = some (.slice e)) (hsz : ∀ w, (sizeOf e).run P w = .ok sz w) (hp : Ev E p (AV.is (slv g len cap))) (hq : Ev E q (AV.int lo)) (hq' : Ev E q' (AV.int hi)) (h0 : 0 ≤ lo) (h1 : lo ≤ hi) (h2 : hi ≤ cap) : OpW P G n own o E (AV.is (sliced (some ⟨g, 0, none⟩) lo.toNat hi.toNat cap sz)) := opW_val fun R a w _ he => by
  have e1 : a.eval p = _ := ev_use hp (by simp [ho, Op.operands]) he
  have e2 : a.eval q = .int .i64 lo := ev_use hq (by simp [ho, Op.operands]) he
  have e3 : a.eval q' = .int .i64 hi := ev_use hq' (by simp [ho, Op.operands]) he
  have hel : P.elem t = e := by simp [Program.elem, ht]
  have hr1 := run_slice_lh (P := P) (w := w) (t := t) (a := some ⟨g, 0, none⟩) (len := len) (cap := cap) (by rw [hel]; exact ht) .i64 .i64 lo hi h0 h1 h2
  rw [hel, hsz, Result.andThen_ok] at hr1
  exact ⟨_, by simp only [execOp, ho, e1, e2, e3, Option.map_some, Option.map_none, run_sliceAt_slice w t _ _ _ _ (by rw [hel]; exact ht), hr1, Sem.run_bind, Sem.run_pure, Result.andThen_ok], rfl⟩
/-- s[i:j:k], of which nothing is used. -/
theorem w_v3 {oa : Option Addr} {lo hi mx : Int} (ho : o.op = .slice t p (some q) (some q') (some q'')) (ht : P.underlying t = some (.slice e)) (hsz : ∀ w, (sizeOf e).run P w = .ok sz w) (hp : Ev E p (AV.is (.slice oa len cap))) (hq : Ev E q (AV.int lo)) (hq' : Ev E q' (AV.int hi)) (hq'' : Ev E q'' (AV.int mx)) (h0 : 0 ≤ lo) (h1 : lo ≤ hi) (h2 : hi ≤ mx) (h3 : mx ≤ cap) : OpW P G n own o E AV.any := opW_val fun R a w _ he => by
  have e1 : a.eval p = _ := ev_use hp (by simp [ho, Op.operands]) he
  have e2 : a.eval q = .int .i64 lo := ev_use hq (by simp [ho, Op.operands]) he
  have e3 : a.eval q' = .int .i64 hi := ev_use hq' (by simp [ho, Op.operands]) he
  have e4 : a.eval q'' = .int .i64 mx := ev_use hq'' (by simp [ho, Op.operands]) he
  have hel : P.elem t = e := by simp [Program.elem, ht]
  have hb : (Instr.sliceBounds true len cap (some (.int .i64 lo)) (some (.int .i64 hi)) (some (.int .i64 mx))).run P w = .ok (lo.toNat, hi.toNat, mx.toNat) w := by
    have g1 : (hi.toNat : Int) = hi := Int.toNat_of_nonneg (by omega)
    have g2 : (mx.toNat : Int) = mx := Int.toNat_of_nonneg (by omega)
    simp [Instr.sliceBounds, run_sliceBound, *, (by omega : 0 ≤ hi), (by omega : 0 ≤ mx)]
  have hr1 := run_slice_any (P := P) (w := w) (t := t) (a := oa) (len := len) (cap := cap) (by rw [hel]; exact ht) (some (.int .i64 lo)) (some (.int .i64 hi)) (some (.int .i64 mx))
  rw [hb, Result.andThen_ok, hel, hsz, Result.andThen_ok] at hr1
  dsimp only at hr1
  exact ⟨sliced oa lo.toNat hi.toNat mx.toNat sz, by simp only [execOp, ho, e1, e2, e3, e4, Option.map_some, Option.map_none, run_sliceAt_slice w t _ _ _ _ (by rw [hel]; exact ht), hr1, Sem.run_bind, Sem.run_pure, Result.andThen_ok], trivial⟩
end vals

/-! ### copy -/
theorem run_copy_rowN (w : World) (dT sT ty elem : TypeId) {inf : TypeInfo} (g o dLen dCap : Nat) (a : Addr) (sLen sCap : Nat) (cur : Array Value) (t : TypeId) (cs : List Value)
    (hu : P.underlying dT = some (.slice elem)) (hi : P.info? elem = some inf)
    (hg : w.heap[g]? = some (.cells cur t (0, 0))) (hn : cs.length = Nat.min sLen dLen * inf.size)
    (hsrc : ∀ j v, cs[j]? = some v → w.cell? (a.add j) = some v) (hfit : o + cs.length ≤ cur.size) (h1 : ∀ v ∈ cs, v.oneCell' = true) :
    (Builtin.copy_ #[dT, sT] ty #[.slice (some ⟨g, o, none⟩) dLen dCap, .slice (some a) sLen sCap]).run P w =
      .ok (goInt (Nat.min sLen dLen)) (w.setRow g (cur.toList.take o ++ cs ++ cur.toList.drop (o + cs.length)).toArray) := by
  have hl := run_loadCells_list (P := P) w a cs hsrc
  have hst := run_storeCells_at P g o t cs 0 cur w hg (by simpa using hfit) h1
  simp [Builtin.copy_, run_underlying hu, Builtin.lenOf, Builtin.firstCells, sizeOf, typeInfo, hi, ← hn, hl, hst]
/-- What a copy reads: these elements. -/
def SrcIs (own : List Own) (E : EnvF) (q : Operand) (sz : Nat) (fs : List (List AV)) : Prop :=
  ∀ (G : Nat → Prop) (w0 : World) (R0 R : RHeap) (a : Act) (w : World), Core G w0 R0 own R w → (∀ t, q = .tmp t → ∀ y, E t = some y → y.den R (a.tmps.getD t undef)) →
    (∀ f ∈ fs, f.length = sz) ∧ (fs ≠ [] → ∃ ad cap vs, a.eval q = .slice (some ad) fs.length cap ∧ (∀ j u, vs[j]? = some u → w.cell? (ad.add j) = some u) ∧ DenC R vs fs.flatten)
theorem src_list {q : Operand} {sz : Nat} {fs : List (List AV)} (hq : Ev E q (AV.list sz fs)) : SrcIs own E q sz fs := fun G w0 R0 R a w hc he => by
  obtain ⟨oa, c, e2, _, _, hu, hcell⟩ := hq R a he
  refine ⟨hu, fun hne => ?_⟩
  obtain ⟨ad, rfl, hca⟩ := hcell hne
  obtain ⟨vs, _, h2, h3⟩ := list_cells (sz := sz) hc.rle hca
  exact ⟨ad, c, vs, e2, h2, h3⟩
theorem own_vals {R : RHeap} {w : World} {g len cap : Nat} {e : TypeId} {sz : Nat} {es : List (List AV)} (h : Own.ok R w (.arr (slv g len cap) e sz es)) : len = es.length ∧ len ≤ cap ∧ cap ≤ maxLen ∧ (∀ x ∈ es, x.length = sz) ∧ ∃ (cur : Array Value) (xs : List Value), w.heap[g]? = some (.cells cur e (0, 0)) ∧ cur.size = cap * sz ∧ cur.toList.take (len * sz) = xs ∧ xs.length = len * sz ∧ DenC R xs es.flatten := by
  obtain ⟨_, hu, xs, hown, hd⟩ := h
  rcases hown.2 with ⟨h1, _⟩ | ⟨g', cap', cur, h1, _, hg, hn, hm, hcs, htake⟩
  · cases h1
  · injection h1 with e1 e2 e3
    injection e1 with e1
    injection e1 with e1
    subst e1; subst e2; subst e3
    exact ⟨rfl, hn, hm, hu, cur, xs, hg, hcs, htake, hown.1, hd⟩
theorem src_own {q : Operand} {g len cap k : Nat} {e : TypeId} {sz : Nat} {es : List (List AV)} (i : Nat) (hi : own[i]? = some (.arr (slv g len cap) e sz es)) (hq : Ev E q (AV.is (sliced (some ⟨g, 0, none⟩) k len cap sz))) : SrcIs own E q sz (es.drop k) := fun G w0 R0 R a w hc he => by
  have e1 : a.eval q = _ := hq R a he
  obtain ⟨hl, hlc, _, hu, cur, xs, hg, hcs, htake, hxl, hd⟩ := own_vals (hc.owned _ (List.mem_of_getElem? hi))
  refine ⟨fun f hf => hu f (List.mem_of_mem_drop hf), fun hne => ?_⟩
  have hk : k < es.length := by
    rcases Nat.lt_or_ge k es.length with h | h
    · exact h
    · exact absurd (List.drop_eq_nil_of_le h) hne
  have hmul : k * sz ≤ len * sz := Nat.mul_le_mul_right sz (by omega)
  refine ⟨⟨g, k * sz, none⟩, cap - k, xs.drop (k * sz), ?_, fun j u hu' => ?_, ?_⟩
  · rw [e1]; unfold sliced
    rw [if_neg (by omega), Option.map_some, addr_add, Nat.zero_add, List.length_drop, hl]
  · rw [List.getElem?_drop] at hu'
    have hjl : k * sz + j < len * sz := by rw [← hxl]; exact (List.getElem?_eq_some_iff.1 hu').1
    rw [addr_add]
    rw [← htake, List.getElem?_take_of_lt hjl, Array.getElem?_toList] at hu'
    simp [World.cell?, hg, hu']
  · rw [flatten_drop k hu]
    exact ⟨by simp [hd.1], fun j v x hv hx => hd.2 _ v x (by rw [List.getElem?_drop] at hv; exact hv) (by rw [List.getElem?_drop] at hx; exact hx)⟩
theorem src_own0 {q : Operand} {g len cap : Nat} {e : TypeId} {sz : Nat} {es : List (List AV)} (i : Nat) (hi : own[i]? = some (.arr (slv g len cap) e sz es)) (hq : Ev E q (AV.is (slv g len cap))) : SrcIs own E q sz es := by
  have := src_own (k := 0) i hi (by rw [sliced_head]; exact hq)
  rwa [List.drop_zero] at this
theorem sliced_tail {g k m cap sz : Nat} (h : k < m) (hc : m ≤ cap) : sliced (some ⟨g, 0, none⟩) k m cap sz = .slice (some ⟨g, k * sz, none⟩) (m - k) (cap - k) := by
  unfold sliced
  rw [if_neg (by omega), Option.map_some, addr_add, Nat.zero_add]
theorem flat_splice3 {sz k : Nat} {es fs : List (List AV)} (hu : ∀ e ∈ es, e.length = sz) (hf : ∀ f ∈ fs, f.length = sz) : (es.take k ++ fs ++ es.drop (k + fs.length)).flatten = splice es.flatten (k * sz) fs.flatten := by
  rw [List.flatten_append, List.flatten_append, flatten_take k hu, flatten_drop (k + fs.length) hu]
  unfold splice
  rw [flatten_len hf, Nat.add_mul]
/-- copy into the elements from k on. -/
theorem sq_copy {ops : Array Oper} {rest : List Oper} {env : List (Nat × AV)} {K : AState → Prop} {t e : TypeId} {p q : Operand} {d sz g len cap k m : Nat} {inf : TypeInfo} {es fs : List (List AV)} (i : Nat) (hg : o.guard = none) (ho : o.op = .call { callee := .builtin .copy, args := #[p, q], argTypes := #[t, t] }) (hd : o.dst = some d) (hn : Nat.blt d n = true)
    (ht : P.underlying t = some (.slice e)) (hinf : P.info? e = some inf) (hsz : inf.size = sz) (hp : Ev (getv · env) p (AV.is (sliced (some ⟨g, 0, none⟩) k m cap sz))) (hq : SrcIs own (getv · env) q sz fs) (hi : own[i]? = some (.arr (slv g len cap) e sz es))
    (hk : k + fs.length ≤ len) (hm : k + fs.length ≤ m) (hmc : m ≤ cap) (hne : fs ≠ []) (c : ASeq P G n ops rest ⟨own.set i (.arr (slv g len cap) e sz (es.take k ++ fs ++ es.drop (k + fs.length))), (d, AV.int fs.length) :: env⟩ K) : ASeq P G n ops (o :: rest) ⟨own, env⟩ K :=
  opS_run hg fun w0 R0 R a w ⟨h1, h2, h3, h4⟩ => by
    have e1 : a.eval p = _ := ev_st (s := ⟨own, env⟩) (o := o) hp h2
    obtain ⟨hfu, hsrc⟩ := hq G w0 R0 R a w h1 (fun t _ y hy => h2 t y hy)
    obtain ⟨ad, sc, vs, e2, hcell, hden⟩ := hsrc hne
    have hpos : 0 < fs.length := List.length_pos_iff.2 hne
    have hok := h1.owned _ (List.mem_of_getElem? hi)
    obtain ⟨hl, hlc, hcm, hu, cur, xs, hgw, hcs, htake, hxl, hdc⟩ := own_vals hok
    rw [sliced_tail (by omega) hmc] at e1
    have hvl : vs.length = fs.length * sz := by rw [hden.1, flatten_len hfu]
    have hmin : Nat.min fs.length (m - k) = fs.length := Nat.min_eq_left (by omega)
    have hone : ∀ u ∈ vs, u.oneCell' = true := fun u hmu => by
      obtain ⟨j, hj⟩ := List.getElem?_of_mem hmu
      have hjl : j < fs.flatten.length := by rw [← hden.1]; exact (List.getElem?_eq_some_iff.1 hj).1
      exact (hden.2 j u _ hj (List.getElem?_eq_getElem hjl)).2
    have hb1 : k * sz + fs.length * sz ≤ len * sz := by rw [← Nat.add_mul]; exact Nat.mul_le_mul_right sz hk
    have hb2 : len * sz ≤ cap * sz := Nat.mul_le_mul_right sz hlc
    have hr := run_copy_rowN (P := P) w t t o.type e g (k * sz) (m - k) (cap - k) ad fs.length sc cur e vs ht hinf hgw (by rw [hmin, hsz]; exact hvl) hcell (by rw [hvl, hcs]; omega) hone
    rw [hmin] at hr
    have hex : (execOp a.eval o).run P w = .ok (.value (.int .i64 fs.length)) (w.setRow g (cur.toList.take (k * sz) ++ vs ++ cur.toList.drop (k * sz + vs.length)).toArray) := by
      simp only [execOp, ho, resolve, invoke, builtin, Sem.run_bind, Sem.run_pure, Result.andThen_ok, List.map_toArray, List.map_cons, List.map_nil, e1, e2, hr, goInt]
    unfold Oper.wp
    rw [hex, Oper.upon_value, hd]
    have hel : (es.take k ++ fs ++ es.drop (k + fs.length)).length = len := by simp; omega
    refine ⟨_, R, c, RSub.refl _, core_set h1 hi rfl rfl ⟨hok.1, fun z hz => ?_, xs.take (k * sz) ++ vs ++ xs.drop (k * sz + vs.length), ⟨?_, .inr ⟨g, cap, _, by rw [hel], Nat.zero_le _, setRow_heap w g _ _ e _ hgw, by rw [hel]; exact hlc, hcm, ?_, ?_⟩⟩, ?_⟩ (setRow_grown w g _), env_put h2 (RSub.refl _) (by rw [h3]; exact Nat.blt_eq.mp hn) rfl, by rw [size_put]; exact h3, by rw [defers_put]; exact h4⟩
    · rcases List.mem_append.1 hz with hz | hz
      · rcases List.mem_append.1 hz with hz | hz
        · exact hu z (List.mem_of_mem_take hz)
        · exact hfu z hz
      · exact hu z (List.mem_of_mem_drop hz)
    · rw [hel]; simp only [List.length_append, List.length_take, List.length_drop, hxl, hvl]; omega
    · simp only [List.size_toArray, List.length_append, List.length_take, List.length_drop, Array.length_toList, hvl, hcs]; omega
    · rw [hel, ← htake]
      exact take_splice (by rw [Array.length_toList, hcs]; exact hb2) (by rw [hvl]; exact hb1)
    · rw [flat_splice3 hu hfu]
      exact denC_splice hdc hden (by rw [flatten_len hu, flatten_len hfu, ← hl]; exact hb1)
/-- copy of the elements from k on, one place further: the row grows by one within its capacity. -/
theorem sq_shift {ops : Array Oper} {rest : List Oper} {env : List (Nat × AV)} {K : AState → Prop} {t e : TypeId} {p q : Operand} {d sz g len cap k : Nat} {inf : TypeInfo} {es : List (List AV)} (i : Nat) (hg : o.guard = none) (ho : o.op = .call { callee := .builtin .copy, args := #[p, q], argTypes := #[t, t] }) (hd : o.dst = some d) (hn : Nat.blt d n = true)
    (ht : P.underlying t = some (.slice e)) (hinf : P.info? e = some inf) (hsz : inf.size = sz) (hp : Ev (getv · env) p (AV.is (sliced (some ⟨g, 0, none⟩) (k + 1) (len + 1) cap sz))) (hq : Ev (getv · env) q (AV.is (sliced (some ⟨g, 0, none⟩) k (len + 1) cap sz))) (hi : own[i]? = some (.arr (slv g len cap) e sz es))
    (hk : k < len) (hc : len + 1 ≤ cap) (c : ∀ j, ASeq P G n ops rest ⟨own.set i (.arr (slv g (len + 1) cap) e sz (es.take (k + 1) ++ es.drop k)), (d, AV.int j) :: env⟩ K) : ASeq P G n ops (o :: rest) ⟨own, env⟩ K :=
  opS_run hg fun w0 R0 R a w ⟨h1, h2, h3, h4⟩ => by
    have e1 : a.eval p = _ := ev_st (s := ⟨own, env⟩) (o := o) hp h2
    have e2 : a.eval q = _ := ev_st (s := ⟨own, env⟩) (o := o) hq h2
    have hok := h1.owned _ (List.mem_of_getElem? hi)
    obtain ⟨hl, hlc, hcm, hu, cur, xs, hgw, hcs, htake, hxl, hdc⟩ := own_vals hok
    rw [sliced_tail (by omega) hc] at e1 e2
    have hmin : Nat.min (len + 1 - k) (len + 1 - (k + 1)) = len - k := by
      show min (len + 1 - k) (len + 1 - (k + 1)) = len - k
      omega
    have hb0 : k * sz ≤ len * sz := Nat.mul_le_mul_right sz (by omega)
    have hb1 : (k + 1) * sz + (len - k) * sz = (len + 1) * sz := by rw [← Nat.add_mul]; congr 1; omega
    have hb2 : (len + 1) * sz ≤ cap * sz := Nat.mul_le_mul_right sz hc
    have hb3 : (k + 1) * sz ≤ len * sz := Nat.mul_le_mul_right sz (by omega)
    have hb4 : len * sz ≤ cap * sz := Nat.mul_le_mul_right sz hlc
    have hvl : (xs.drop (k * sz)).length = (len - k) * sz := by rw [List.length_drop, hxl, Nat.sub_mul]
    have hone : ∀ u ∈ xs.drop (k * sz), u.oneCell' = true := fun u hmu => by
      obtain ⟨j, hj⟩ := List.getElem?_of_mem (List.mem_of_mem_drop hmu)
      have hjl : j < es.flatten.length := by rw [← hdc.1]; exact (List.getElem?_eq_some_iff.1 hj).1
      exact (hdc.2 j u _ hj (List.getElem?_eq_getElem hjl)).2
    have hcell : ∀ j u, (xs.drop (k * sz))[j]? = some u → w.cell? ((⟨g, k * sz, none⟩ : Addr).add j) = some u := fun j u hu' => by
      rw [List.getElem?_drop] at hu'
      have hjl : k * sz + j < len * sz := by rw [← hxl]; exact (List.getElem?_eq_some_iff.1 hu').1
      rw [addr_add]
      rw [← htake, List.getElem?_take_of_lt hjl, Array.getElem?_toList] at hu'
      simp [World.cell?, hgw, hu']
    have hr := run_copy_rowN (P := P) w t t o.type e g ((k + 1) * sz) (len + 1 - (k + 1)) (cap - (k + 1)) ⟨g, k * sz, none⟩ (len + 1 - k) (cap - k) cur e (xs.drop (k * sz)) ht hinf hgw (by rw [hmin, hsz]; exact hvl) hcell (by rw [hvl, hcs]; omega) hone
    rw [hmin] at hr
    have hex : (execOp a.eval o).run P w = .ok (.value (.int .i64 ((len - k : Nat) : Int))) (w.setRow g (cur.toList.take ((k + 1) * sz) ++ xs.drop (k * sz) ++ cur.toList.drop ((k + 1) * sz + (xs.drop (k * sz)).length)).toArray) := by
      simp only [execOp, ho, resolve, invoke, builtin, Sem.run_bind, Sem.run_pure, Result.andThen_ok, List.map_toArray, List.map_cons, List.map_nil, e1, e2, hr, goInt]
    unfold Oper.wp
    rw [hex, Oper.upon_value, hd]
    have hel : (es.take (k + 1) ++ es.drop k).length = len + 1 := by simp; omega
    refine ⟨_, R, c _, RSub.refl _, core_set h1 hi rfl rfl ⟨hok.1, fun z hz => ?_, xs.take ((k + 1) * sz) ++ xs.drop (k * sz), ⟨?_, .inr ⟨g, cap, _, by rw [hel], Nat.zero_le _, setRow_heap w g _ _ e _ hgw, by rw [hel]; exact hc, hcm, ?_, ?_⟩⟩, ?_⟩ (setRow_grown w g _), env_put h2 (RSub.refl _) (by rw [h3]; exact Nat.blt_eq.mp hn) rfl, by rw [size_put]; exact h3, by rw [defers_put]; exact h4⟩
    · rcases List.mem_append.1 hz with hz | hz
      · exact hu z (List.mem_of_mem_take hz)
      · exact hu z (List.mem_of_mem_drop hz)
    · rw [hel, List.length_append, hvl, List.length_take, hxl]; omega
    · simp only [List.size_toArray, List.length_append, List.length_take, List.length_drop, Array.length_toList, hcs, hxl]
      have : len * sz - k * sz = (len - k) * sz := (Nat.sub_mul _ _ _).symm
      omega
    · rw [hel]
      show List.take ((len + 1) * sz) (cur.toList.take ((k + 1) * sz) ++ xs.drop (k * sz) ++ cur.toList.drop ((k + 1) * sz + (xs.drop (k * sz)).length)) = _
      have hl2 : (cur.toList.take ((k + 1) * sz) ++ xs.drop (k * sz)).length = (len + 1) * sz := by rw [List.length_append, hvl, List.length_take, Array.length_toList, hcs]; omega
      rw [← hl2, List.take_left', ← htake, List.take_take, Nat.min_eq_left hb3]
      rfl
    · rw [List.flatten_append, flatten_take (k + 1) hu, flatten_drop k hu]
      refine denC_append' ⟨by simp [hdc.1], fun j u x hu' hx => ?_⟩ ⟨by simp [hdc.1], fun j u x hu' hx => ?_⟩
      · by_cases hj : j < (k + 1) * sz
        · rw [List.getElem?_take_of_lt hj] at hu' hx; exact hdc.2 j u x hu' hx
        · rw [List.getElem?_eq_none (by simp; omega)] at hu'; cases hu'
      · rw [List.getElem?_drop] at hu' hx; exact hdc.2 _ u x hu' hx
theorem zero_den {R : RHeap} {z : Value} {sz : Nat} (hzs : z.cells.size = sz) (h1z : z.cells.toList.all Value.oneCell' = true) (hpos : 0 < sz) (m : Nat) : DenC R (Builtin.zeroCells z.cells m).toList (List.replicate m (z.cells.toList.map zeroA)).flatten := by
  have hlz := zeroCells_list z sz hzs m
  have hu : ∀ e ∈ List.replicate m (z.cells.toList.map zeroA), e.length = sz := fun e he => by rw [(List.mem_replicate.1 he).2]; simp [hzs]
  refine ⟨by rw [hlz.1, flatten_len hu]; simp, fun j u x hu' hx => ?_⟩
  have hjl : j < m * sz := by rw [← hlz.1]; exact (List.getElem?_eq_some_iff.1 hu').1
  have hjm : j % sz < sz := Nat.mod_lt _ hpos
  have hjd : j / sz < m := Nat.div_lt_of_lt_mul (by rw [Nat.mul_comm]; exact hjl)
  have hjj : j / sz * sz + j % sz = j := by rw [Nat.mul_comm]; exact Nat.div_add_mod j sz
  have hzj : z.cells.toList[j % sz]? = some (z.cells.toList[j % sz]'(by simp [hzs]; exact hjm)) := List.getElem?_eq_getElem _
  have hx2 := flatten_get hu (i := j / sz) (e := z.cells.toList.map zeroA) (by rw [List.getElem?_replicate, if_pos hjd]) (k := j % sz) (x := zeroA (z.cells.toList[j % sz]'(by simp [hzs]; exact hjm))) (by rw [List.getElem?_map, hzj]; rfl)
  rw [hjj, hx] at hx2
  injection hx2 with hx2
  have hu2 : u = z.cells.toList[j % sz]'(by simp [hzs]; exact hjm) := by
    rw [hlz.2 j u hu', getElem!_pos z.cells _ (by rw [hzs]; exact hjm)]; simp
  rw [hx2, hu2]
  exact ⟨zeroA_den R _, List.all_eq_true.1 h1z _ (by simp)⟩
/-- append(s[:j], make([]T, m)...) where no room is: a new row. -/
theorem sq_appendZ {ops : Array Oper} {rest : List Oper} {env : List (Nat × AV)} {K : AState → Prop} {t tn e : TypeId} {p q : Operand} {kn : IntKind} {d sz by' g len cap j m : Nat} {inf : TypeInfo} {z : Value} {es : List (List AV)} (i : Nat) (hg : o.guard = none) (ho : o.op = .call { callee := .builtin .append, args := #[p, q], argTypes := #[t, tn] }) (hd : o.dst = some d) (hn : Nat.blt d n = true)
    (ht : P.underlying t = some (.slice e)) (htn : P.underlying tn = some (.int kn)) (hinf : P.info? e = some inf) (hz : inf.zero = some z) (hsz : inf.size = sz) (hby : inf.bytes = by') (hzs : z.cells.size = sz) (hpos' : Nat.ble 1 sz = true) (h1z : z.cells.toList.all Value.oneCell' = true) (hp : Ev (getv · env) p (AV.is (slv g j cap))) (hq : Ev (getv · env) q (AV.int m)) (hi : own[i]? = some (.arr (slv g len cap) e sz es))
    (hj : j ≤ len) (hm : 0 < m) (hc : cap < j + m) (hlen : (j + m) * by' ≤ 140737488355328) (hlen2 : j + m ≤ 9223372036854775807) (k : ∀ g' cap', j + m ≤ cap' → ASeq P G n ops rest ⟨.arr (slv g' (j + m) cap') e sz (es.take j ++ List.replicate m (z.cells.toList.map zeroA)) :: own, (d, AV.is (slv g' (j + m) cap')) :: env⟩ K) : ASeq P G n ops (o :: rest) ⟨own, env⟩ K :=
  opS_run hg fun w0 R0 R a w ⟨h1, h2, h3, h4⟩ => by
    have hpos := Nat.le_of_ble_eq_true hpos'
    have e1 : a.eval p = _ := ev_st (s := ⟨own, env⟩) (o := o) hp h2
    have e2 : a.eval q = .int .i64 m := ev_st (s := ⟨own, env⟩) (o := o) hq h2
    obtain ⟨hl, hlc, hcm, hu, cur, xs, hgw, hcs, htake, hxl, hdc⟩ := own_vals (h1.owned _ (List.mem_of_getElem? hi))
    have hb1 : j * sz ≤ len * sz := Nat.mul_le_mul_right sz hj
    have hb2 : len * sz ≤ cap * sz := Nat.mul_le_mul_right sz hlc
    have hold : (Builtin.firstCells inf.size j (slv g j cap)).run P w.drew = .ok (xs.take (j * sz)).toArray w.drew := by
      have := run_loadCells_list (P := P) w.drew ⟨g, 0, none⟩ (xs.take (j * sz)) (fun i u hu' => by
        have hil : i < j * sz := by have := (List.getElem?_eq_some_iff.1 hu').1; rw [List.length_take] at this; omega
        rw [List.getElem?_take_of_lt hil, ← htake, List.getElem?_take_of_lt (by omega), Array.getElem?_toList] at hu'
        rw [addr_add, Nat.zero_add]
        show w.cell? _ = _
        simp [World.cell?, hgw, hu'])
      rw [List.length_take, hxl, Nat.min_eq_left hb1] at this
      simpa [Builtin.firstCells, hsz] using this
    have hr := Lib.run_append_grow_zeros (P := P) w t tn o.type e inf z .i64 kn ht htn hinf hz (some ⟨g, 0, none⟩) j cap _ hold m hm (by omega) hc (by omega) (by
      have : m * by' ≤ (j + m) * by' := Nat.mul_le_mul_right _ (by omega)
      rw [hby]; omega) (by rw [hby]; exact growslice_fits hc hlen)
    have hex : (execOp a.eval o).run P w = .ok (.value (slv w.heap.size (j + m) (grownCap w (j + m) cap e))) (w.drew.alloc (.cells ((xs.take (j * sz)).toArray ++ Builtin.zeroCells z.cells m ++ Builtin.zeroCells z.cells (grownCap w (j + m) cap e - (j + m))) e)) := by
      simp only [execOp, ho, resolve, invoke, builtin, Sem.run_bind, Sem.run_pure, Result.andThen_ok, List.map_toArray, List.map_cons, List.map_nil, e1, e2, hr]
    unfold Oper.wp
    rw [hex, Oper.upon_value, hd]
    have hge := grownCap_ge w (j + m) cap e
    have hcm2 : grownCap w (j + m) cap e ≤ maxLen := grownCap_le_maxLen w (j + m) cap e (by unfold maxLen; omega)
    have hl1 : (xs.take (j * sz)).length = j * sz := by rw [List.length_take, hxl]; omega
    refine ⟨_, R, k _ _ hge, RSub.refl _, core_arr_new (sz := sz) (m := j + m) (cap := grownCap w (j + m) cap e) (core_drew h1) (by simp; omega) hge hcm2 ?_ (fun x hx => ?_) ?_, env_put h2 (RSub.refl _) (by rw [h3]; exact Nat.blt_eq.mp hn) rfl, by rw [size_put]; exact h3, by rw [defers_put]; exact h4⟩
    · simp only [Array.size_append, List.size_toArray, size_zeroCells, hl1, hzs, ← Nat.add_mul]
      congr 1; omega
    · rcases List.mem_append.1 hx with hx | hx
      · exact hu x (List.mem_of_mem_take hx)
      · rw [(List.mem_replicate.1 hx).2]; simp [hzs]
    · have hsz3 : ((xs.take (j * sz)).toArray ++ Builtin.zeroCells z.cells m).toList.length = (j + m) * sz := by simp only [Array.length_toList, Array.size_append, List.size_toArray, size_zeroCells, hl1, hzs, Nat.add_mul]
      rw [Array.toList_append, List.take_left' hsz3, Array.toList_append, List.flatten_append]
      refine denC_append' ?_ (zero_den hzs h1z (by omega) m)
      rw [flatten_take j hu]
      exact ⟨by simp [hdc.1], fun i u x hu' hx => by
        by_cases hij : i < j * sz
        · simp only [List.getElem?_take_of_lt hij] at hu' hx; exact hdc.2 i u x hu' hx
        · rw [List.getElem?_eq_none (by simp; omega)] at hu'; cases hu'⟩
/-- Two rows of the call's own do not overlap. -/
theorem w_overlapsF {f : FuncId} {fn : Func} {t e tb : TypeId} {p q : Operand} {tys : Array TypeId} {gv cv g len cap k m sz : Nat} {lv : Nat} {es vs : List (List AV)} (iv i : Nat) (ho : o.op = .call { callee := .value (.func f), args := #[p, q], argTypes := tys }) (hf : P.funcs[f]? = some fn) (hname : (fn.name == "runtime.NumGoroutine") = false) (hb : fn.body.isNone = true) (hnx : Extern.findNext fn = none) (he : Extern.find fn = some (Extern.SlicesOverlaps.overlaps #[t, t] #[tb]))
    (ht : P.underlying t = some (.slice e)) (hsz : ∀ w, (sizeOf e).run P w = .ok sz w) (hp : Ev E p (AV.is (slv gv lv cv))) (hq : Ev E q (AV.is (sliced (some ⟨g, 0, none⟩) k m cap sz))) (hiv : own[iv]? = some (.arr (slv gv lv cv) e sz vs)) (hi : own[i]? = some (.arr (slv g len cap) e sz es)) (hne : Nat.beq iv i = false) (hcap : 0 < cap) (hpos : Nat.ble 1 sz = true) :
    OpW P G n own o E (AV.bool false) := opW_core fun w0 R0 R a w hcr hen => by
  have e1 : a.eval p = _ := ev_use hp (by simp [ho, Op.operands, Call.operands]) hen
  have e2 : a.eval q = _ := ev_use hq (by simp [ho, Op.operands, Call.operands]) hen
  have hb1 := Nat.le_of_ble_eq_true hpos
  have hij : iv ≠ i := fun h => by rw [h, Nat.beq_refl] at hne; cases hne
  obtain ⟨_, _, _, _, curv, xsv, hgv, hcv, _⟩ := own_vals (hcr.owned _ (List.mem_of_getElem? hiv))
  obtain ⟨_, _, _, _, cur, xs, hg, hcs, _⟩ := own_vals (hcr.owned _ (List.mem_of_getElem? hi))
  have hgne : gv ≠ g := fun h => sep_get hcr.sep hiv hi hij (b := gv) rfl (by rw [h]; rfl)
  obtain ⟨ad, lb, cb, hsl, hadb⟩ : ∃ ad lb cb, sliced (some ⟨g, 0, none⟩) k m cap sz = .slice (some ad) lb cb ∧ ad.block = g := by
    unfold sliced
    by_cases h : cap = k
    · exact ⟨_, _, _, by rw [if_pos h], rfl⟩
    · exact ⟨_, _, _, by rw [if_neg h, Option.map_some], by rw [addr_add]⟩
  rw [hsl] at e2
  have hkB : cap * sz ≠ 0 := Nat.mul_ne_zero (by omega) (by omega)
  have h3 := Lib.run_overlaps_apart (P := P) w t tb e ht sz hsz ⟨gv, 0, none⟩ ad lv cv lb cb (by rw [hadb]; exact hgne) e e curv.size cur.size (by simp [World.shape?, hgv]) (by simp [World.shape?, hadb, hg]) (by rw [hcs]; exact hkB) (by simp [World.frozen?, hgv]) (by simp [World.frozen?, hgv])
  have h4 := run_callFunc_extern (P := P) hf hname hb hnx he #[slv gv lv cv, .slice (some ad) lb cb] w
  rw [h3, Result.andThen_ok] at h4
  refine ⟨.bool false, ?_, rfl⟩
  simp only [execOp, ho, resolve, List.map_toArray, List.map_cons, List.map_nil, e1, e2, show a.eval (.func f) = .func (.func f) #[] #[] from rfl]
  simp [Deferred.ofValue, invoke, h4]
/-- append(s[:k], s[j:]...) in place. -/
theorem sq_cutout {ops : Array Oper} {rest : List Oper} {env : List (Nat × AV)} {K : AState → Prop} {t e : TypeId} {p q : Operand} {d sz g len cap k j : Nat} {inf : TypeInfo} {es : List (List AV)} (i : Nat) (hg : o.guard = none) (ho : o.op = .call { callee := .builtin .append, args := #[p, q], argTypes := #[t, t] }) (hd : o.dst = some d) (hn : Nat.blt d n = true)
    (ht : P.underlying t = some (.slice e)) (hinf : P.info? e = some inf) (hsz : inf.size = sz) (hp : Ev (getv · env) p (AV.is (slv g k cap))) (hq : Ev (getv · env) q (AV.is (sliced (some ⟨g, 0, none⟩) j len cap sz))) (hi : own[i]? = some (.arr (slv g len cap) e sz es)) (hk : k ≤ j) (hj : j ≤ len)
    (c : ASeq P G n ops rest ⟨own.set i (.arr (slv g (k + (len - j)) cap) e sz (es.take k ++ es.drop j)), (d, AV.is (slv g (k + (len - j)) cap)) :: env⟩ K) : ASeq P G n ops (o :: rest) ⟨own, env⟩ K :=
  opS_run hg fun w0 R0 R a w ⟨h1, h2, h3, h4⟩ => by
    have e1 : a.eval p = _ := ev_st (s := ⟨own, env⟩) (o := o) hp h2
    have e2 : a.eval q = _ := ev_st (s := ⟨own, env⟩) (o := o) hq h2
    have hok := h1.owned _ (List.mem_of_getElem? hi)
    obtain ⟨hl, hlc, hcm, hu, cur, xs, hgw, hcs, htake, hxl, hdc⟩ := own_vals hok
    obtain ⟨ad, cb, hsl, hadb⟩ : ∃ ad cb, sliced (some ⟨g, 0, none⟩) j len cap sz = .slice (some ad) (len - j) cb ∧ (j < len → ad = ⟨g, j * sz, none⟩) := by
      unfold sliced
      by_cases h : cap = j
      · exact ⟨_, _, by rw [if_pos h], fun h' => by omega⟩
      · exact ⟨_, _, by rw [if_neg h, Option.map_some], fun _ => by rw [addr_add, Nat.zero_add]⟩
    rw [hsl] at e2
    have hb0 : k * sz ≤ j * sz := Nat.mul_le_mul_right sz hk
    have hb1 : j * sz ≤ len * sz := Nat.mul_le_mul_right sz hj
    have hb4 : len * sz ≤ cap * sz := Nat.mul_le_mul_right sz hlc
    have hvl : (xs.drop (j * sz)).length = (len - j) * sz := by rw [List.length_drop, hxl, Nat.sub_mul]
    have hsum : (len - j) * sz = len * sz - j * sz := Nat.sub_mul _ _ _
    have hone : ∀ u ∈ xs.drop (j * sz), u.oneCell' = true := fun u hmu => by
      obtain ⟨i', hj'⟩ := List.getElem?_of_mem (List.mem_of_mem_drop hmu)
      have hjl : i' < es.flatten.length := by rw [← hdc.1]; exact (List.getElem?_eq_some_iff.1 hj').1
      exact (hdc.2 i' u _ hj' (List.getElem?_eq_getElem hjl)).2
    have hcell : ∀ i' u, (xs.drop (j * sz))[i']? = some u → w.cell? (ad.add i') = some u := fun i' u hu' => by
      rw [List.getElem?_drop] at hu'
      have hjl : j * sz + i' < len * sz := by rw [← hxl]; exact (List.getElem?_eq_some_iff.1 hu').1
      have hjlt : j < len := by
        rcases Nat.lt_or_ge j len with h | h
        · exact h
        · have := Nat.mul_le_mul_right sz h; omega
      rw [hadb hjlt, addr_add]
      rw [← htake, List.getElem?_take_of_lt hjl, Array.getElem?_toList] at hu'
      simp [World.cell?, hgw, hu']
    have hr := run_append_room (P := P) w t o.type e inf ht hinf g k cap cur hgw ad (len - j) cb (xs.drop (j * sz)) (by rw [hvl, hsz]) hcell hone (by omega) (by rw [hvl, hcs, hsz]; omega)
    rw [hsz] at hr
    have hex : (execOp a.eval o).run P w = .ok (.value (slv g (k + (len - j)) cap)) (w.setRow g (cur.toList.take (k * sz) ++ xs.drop (j * sz) ++ cur.toList.drop (k * sz + (xs.drop (j * sz)).length)).toArray) := by
      simp only [execOp, ho, resolve, invoke, builtin, Sem.run_bind, Sem.run_pure, Result.andThen_ok, List.map_toArray, List.map_cons, List.map_nil, e1, e2, hr]
    unfold Oper.wp
    rw [hex, Oper.upon_value, hd]
    have hel : (es.take k ++ es.drop j).length = k + (len - j) := by simp; omega
    have hmul : (k + (len - j)) * sz = k * sz + (len - j) * sz := Nat.add_mul _ _ _
    refine ⟨_, R, c, RSub.refl _, core_set h1 hi rfl rfl ⟨hok.1, fun z hz => ?_, xs.take (k * sz) ++ xs.drop (j * sz), ⟨?_, .inr ⟨g, cap, _, by rw [hel], Nat.zero_le _, setRow_heap w g _ _ e _ hgw, by rw [hel]; omega, hcm, ?_, ?_⟩⟩, ?_⟩ (setRow_grown w g _), env_put h2 (RSub.refl _) (by rw [h3]; exact Nat.blt_eq.mp hn) rfl, by rw [size_put]; exact h3, by rw [defers_put]; exact h4⟩
    · rcases List.mem_append.1 hz with hz | hz
      · exact hu z (List.mem_of_mem_take hz)
      · exact hu z (List.mem_of_mem_drop hz)
    · rw [hel, List.length_append, hvl, List.length_take, hxl, hmul]; omega
    · simp only [List.size_toArray, List.length_append, List.length_take, List.length_drop, Array.length_toList, hcs, hxl]; omega
    · rw [hel]
      show List.take ((k + (len - j)) * sz) (cur.toList.take (k * sz) ++ xs.drop (j * sz) ++ cur.toList.drop (k * sz + (xs.drop (j * sz)).length)) = _
      have hl2 : (cur.toList.take (k * sz) ++ xs.drop (j * sz)).length = (k + (len - j)) * sz := by rw [List.length_append, hvl, List.length_take, Array.length_toList, hcs, hmul]; omega
      rw [← hl2, List.take_left', ← htake, List.take_take, Nat.min_eq_left (by omega)]
      rfl
    · rw [List.flatten_append, flatten_take k hu, flatten_drop j hu]
      refine denC_append' ⟨by simp [hdc.1], fun i' u x hu' hx => ?_⟩ ⟨by simp [hdc.1], fun i' u x hu' hx => ?_⟩
      · by_cases hj' : i' < k * sz
        · rw [List.getElem?_take_of_lt hj'] at hu' hx; exact hdc.2 i' u x hu' hx
        · rw [List.getElem?_eq_none (by simp; omega)] at hu'; cases hu'
      · rw [List.getElem?_drop] at hu' hx; exact hdc.2 _ u x hu' hx
/-- clear of what lies behind the end. -/
theorem sq_vclear {ops : Array Oper} {rs : List Oper} {env : List (Nat × AV)} {K : AState → Prop} {t e : TypeId} {p : Operand} {z : Value} {sz g len cap lo hi : Nat} {es : List (List AV)} (i : Nat) (hg : o.guard = none) (ho : o.op = .call { callee := .builtin .clear, args := #[p], argTypes := #[t] }) (hd : o.dst = none)
    (ht : P.underlying t = some (.slice e)) (hz : ∀ w, (zeroValue e).run P w = .ok z w) (hzs : z.cells.size = sz) (h1z : z.cells.toList.all Value.oneCell' = true) (hpos : Nat.ble 1 sz = true) (hp : Ev (getv · env) p (AV.is (sliced (some ⟨g, 0, none⟩) lo hi cap sz))) (hi' : own[i]? = some (.arr (slv g len cap) e sz es)) (h1 : len ≤ lo) (h2 : lo ≤ hi) (h3 : hi ≤ cap)
    (c : ASeq P G n ops rs ⟨own, env⟩ K) : ASeq P G n ops (o :: rs) ⟨own, env⟩ K :=
  opS_run hg fun w0 R0 R a w ⟨h1', h2', h3', h4'⟩ => by
    have e1 : a.eval p = _ := ev_st (s := ⟨own, env⟩) (o := o) hp h2'
    have hok := h1'.owned _ (List.mem_of_getElem? hi')
    obtain ⟨hl, hlc, hcm, hu, cur, xs, hgw, hcs, htake, hxl, hdc⟩ := own_vals hok
    have hb1 := Nat.le_of_ble_eq_true hpos
    by_cases hlh : lo = hi
    · have hex : (execOp a.eval o).run P w = .ok (.value (.tuple #[])) w := by
        subst hlh
        simp only [execOp, ho, resolve, invoke, builtin, List.map_toArray, List.map_cons, List.map_nil, e1, sliced, Nat.sub_self, Sem.run_bind, Sem.run_pure, Result.andThen_ok]
        by_cases hc : cap = lo <;> simp [Builtin.clear_, run_underlying ht, hc]
      unfold Oper.wp
      rw [hex, Oper.upon_value, hd]
      exact ⟨_, R, c, RSub.refl _, h1', h2', h3', h4'⟩
    · obtain ⟨m, hm⟩ : ∃ m, hi - lo = m + 1 := ⟨hi - lo - 1, by omega⟩
      rw [sliced_tail (by omega) h3, hm] at e1
      have hlz := zeroCells_list z sz hzs (m + 1)
      have hone : ∀ u ∈ (Builtin.zeroCells z.cells (m + 1)).toList, u.oneCell' = true := fun u hu => by
        obtain ⟨j, hj⟩ := List.getElem?_of_mem hu
        rw [hlz.2 j u hj, getElem!_pos z.cells _ (by rw [hzs]; exact Nat.mod_lt _ (by omega))]
        exact List.all_eq_true.1 h1z _ (by simp)
      have hmul : lo * sz + (m + 1) * sz = hi * sz := by rw [← Nat.add_mul]; congr 1; omega
      have hmc : hi * sz ≤ cap * sz := Nat.mul_le_mul_right sz h3
      have hml : len * sz ≤ lo * sz := Nat.mul_le_mul_right sz h1
      have hst := run_storeCells_at (P := P) g (lo * sz) e (Builtin.zeroCells z.cells (m + 1)).toList 0 cur w hgw (by rw [hlz.1, hcs]; omega) hone
      simp only [Nat.add_zero, hlz.1] at hst
      have hex : (execOp a.eval o).run P w = .ok (.value (.tuple #[])) (w.setRow g (cur.toList.take (lo * sz) ++ (Builtin.zeroCells z.cells (m + 1)).toList ++ cur.toList.drop (lo * sz + (m + 1) * sz)).toArray) := by
        simp only [execOp, ho, resolve, invoke, builtin, List.map_toArray, List.map_cons, List.map_nil, e1, Sem.run_bind, Sem.run_pure, Result.andThen_ok]
        simp [Builtin.clear_, run_underlying ht, hz, hst]
      unfold Oper.wp
      rw [hex, Oper.upon_value, hd]
      have hset : own.set i (.arr (slv g len cap) e sz es) = own := by
        obtain ⟨hlt, heq⟩ := List.getElem?_eq_some_iff.1 hi'
        rw [← heq]; exact List.set_getElem_self hlt
      obtain ⟨cur', hcur'⟩ : ∃ cur' : Array Value, cur' = (cur.toList.take (lo * sz) ++ (Builtin.zeroCells z.cells (m + 1)).toList ++ cur.toList.drop (lo * sz + (m + 1) * sz)).toArray := ⟨_, rfl⟩
      have hs1 : cur'.size = cap * sz := by
        rw [hcur']; simp only [List.size_toArray, List.length_append, List.length_take, List.length_drop, hlz.1, Array.length_toList, hcs]; omega
      have hs2 : cur'.toList.take (len * sz) = xs := by
        rw [hcur', ← htake]
        show List.take (len * sz) (cur.toList.take (lo * sz) ++ (Builtin.zeroCells z.cells (m + 1)).toList ++ cur.toList.drop (lo * sz + (m + 1) * sz)) = _
        rw [List.append_assoc, List.take_append_of_le_length (by rw [List.length_take, Array.length_toList, hcs]; omega), List.take_take, Nat.min_eq_left hml]
      rw [← hcur']
      have hcore := core_set (y := .arr (slv g len cap) e sz es) h1' hi' rfl rfl ⟨hok.1, hu, xs, ⟨by rw [hxl, hl], .inr ⟨g, cap, cur', by rw [hl], Nat.zero_le _, setRow_heap w g _ _ e _ hgw, by rw [← hl]; exact hlc, hcm, hs1, by rw [← hl]; exact hs2⟩⟩, hdc⟩ (setRow_grown w g cur')
      rw [hset] at hcore
      exact ⟨_, R, c, RSub.refl _, hcore, h2', h3', h4'⟩
end
end Go.AV
