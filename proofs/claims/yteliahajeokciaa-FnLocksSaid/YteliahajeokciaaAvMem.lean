/- Rules for slices and structs that are only read, for boxes, for calls. -/
import Derived.Test.YteliahajeokciaaAvOps
set_option linter.unusedVariables false
set_option linter.unusedSimpArgs false
namespace Go.AV
open Go.RowKit (Below)

theorem add_add (a : Addr) (i j : Nat) : (a.add i).add j = a.add (i + j) := by
  unfold Addr.add
  by_cases hi : i = 0 <;> by_cases hj : j = 0 <;> simp [hi, hj, Nat.add_assoc]
theorem add_zero (a : Addr) : a.add 0 = a := by simp [Addr.add]
theorem add_block (a : Addr) (n : Nat) : (a.add n).block = a.block := by unfold Addr.add; split <;> rfl
theorem flatten_get {α : Type} {sz : Nat} : ∀ {es : List (List α)}, (∀ e ∈ es, e.length = sz) → ∀ {i : Nat} {e : List α}, es[i]? = some e → ∀ {k : Nat} {x : α}, e[k]? = some x → es.flatten[i * sz + k]? = some x
  | [], _, i, e, h, _, _, _ => by simp at h
  | e0 :: es, hl, 0, e, h, k, x, hx => by
    simp at h; subst h
    have hk : k < e0.length := (List.getElem?_eq_some_iff.1 hx).1
    simp only [List.flatten_cons, Nat.zero_mul, Nat.zero_add]
    rw [List.getElem?_append_left hk]; exact hx
  | e0 :: es, hl, i + 1, e, h, k, x, hx => by
    have h0 : e0.length = sz := hl e0 (by simp)
    simp only [List.flatten_cons]
    rw [List.getElem?_append_right (by rw [h0, Nat.add_mul]; omega)]
    have : (i + 1) * sz + k - e0.length = i * sz + k := by rw [h0, Nat.add_mul]; omega
    rw [this]
    exact flatten_get (fun e he => hl e (by simp [he])) (by simpa using h) hx
theorem flatten_len {α : Type} {sz : Nat} : ∀ {es : List (List α)}, (∀ e ∈ es, e.length = sz) → es.flatten.length = es.length * sz
  | [], _ => by simp
  | e0 :: es, hl => by
    have h0 : e0.length = sz := hl e0 (by simp)
    simp only [List.flatten_cons, List.length_append, List.length_cons, h0, flatten_len (es := es) (fun e he => hl e (by simp [he])), Nat.add_mul]
    omega

section
variable {P : Program} {G : Nat → Prop} {n : Nat} {own : List Own} {o : Oper} {E : EnvF}

section lists
variable {t e ty : TypeId} {p q : Operand} {sz : Nat} {es : List (List AV)}
theorem w_llen (ho : o.op = .call { callee := .builtin .len, args := #[p], argTypes := #[t] }) (ht : P.underlying t = some (.slice e)) (hp : Ev E p (AV.list sz es)) : OpW P G n own o E (AV.int es.length) := opW_val fun R a w _ he => by
  obtain ⟨oa, c, h1, _⟩ := ev_use hp (by simp [ho, Op.operands, Call.operands]) he
  have hel : P.elem t = e := by simp [Program.elem, ht]
  have h2 := run_len_slice (P := P) w t o.type oa es.length c (by rw [hel]; exact ht)
  exact ⟨.int .i64 es.length, by simp only [execOp, ho, resolve, invoke, builtin, List.map_toArray, List.map_cons, List.map_nil, h1, h2, Sem.run_bind, Sem.run_pure, Result.andThen_ok, goInt], rfl⟩
theorem w_idx {i : Int} {ec : List AV} (ho : o.op = .indexAddr t p q) (ht : P.underlying t = some (.slice e)) (hsz : ∀ w, (sizeOf e).run P w = .ok sz w) (hp : Ev E p (AV.list sz es)) (hq : Ev E q (AV.int i)) (h0 : 0 ≤ i)
    (hi : es[i.toNat]? = some ec) : OpW P G n own o E (AV.eptr ec) := opW_val fun R a w _ he => by
  obtain ⟨oa, c, h1, _, _, hl, hc⟩ := ev_use hp (by simp [ho, Op.operands]) he
  have h2 : a.eval q = .int .i64 i := ev_use hq (by simp [ho, Op.operands]) he
  have hlt : i.toNat < es.length := (List.getElem?_eq_some_iff.1 hi).1
  obtain ⟨ad, rfl, hcell⟩ := hc (fun h => by subst h; simp at hlt)
  have hel : P.elem t = e := by simp [Program.elem, ht]
  have h3 := run_indexAt_slice (P := P) w t ad es.length c .i64 i (by rw [hel]; exact ht)
  rw [if_pos ⟨h0, by omega⟩, hel, hsz, Result.andThen_ok] at h3
  refine ⟨.pointer (some (ad.add (i.toNat * sz))), by simp only [execOp, ho, h1, h2, h3, Sem.run_bind, Sem.run_pure, Result.andThen_ok], _, rfl, fun j x hx => ?_⟩
  rw [add_add]
  exact hcell _ x (flatten_get hl hi hx)
theorem w_loadE {xs : List AV} (ho : o.op = .load t p) (hp : Ev E p (AV.eptr xs)) (ha : ∀ w, (isAgg t).run P w = .ok true w) (hs : ∀ w, (sizeOf t).run P w = .ok xs.length w) : OpW P G n own o E (AV.agg xs) := opW_val fun R a w hr he => by
  obtain ⟨ad, h1, hc⟩ := ev_use hp (by simp [ho, Op.operands]) he
  have hcell : ∀ j, j < xs.length → w.cell? (ad.add j) = some (((w.cell? (ad.add j)).getD undef)) := fun j hj => by
    obtain ⟨u, h2, _⟩ := hc j xs[j] (List.getElem?_eq_getElem hj)
    rw [rcell_cell hr h2]; rfl
  have h3 := run_loadCells (P := P) w ad xs.length (fun j => (w.cell? (ad.add j)).getD undef) hcell
  refine ⟨.agg ((List.range xs.length).map fun j => (w.cell? (ad.add j)).getD undef).toArray, ?_, _, rfl, by simp, fun i v x hv hx => ?_⟩
  · simp only [execOp, ho, h1, Instr.loadAt, Instr.sureAddr, loadVar, Sem.run_bind, Sem.run_pure, Result.andThen_ok, ha, if_true, hs, h3]
  · have hi : i < xs.length := (List.getElem?_eq_some_iff.1 hx).1
    obtain ⟨u, h2, h4, h5⟩ := hc i x hx
    rw [List.getElem?_map, List.getElem?_range hi, Option.map_some, rcell_cell hr h2] at hv
    simp at hv; subst hv
    exact ⟨h4, h5⟩
theorem w_loadE1 {xs : List AV} {x : AV} (ho : o.op = .load t p) (hp : Ev E p (AV.eptr xs)) (ha : ∀ w, (isAgg t).run P w = .ok false w) (hx : xs[0]? = some x) : OpW P G n own o E x := opW_val fun R a w hr he => by
  obtain ⟨ad, h1, hc⟩ := ev_use hp (by simp [ho, Op.operands]) he
  obtain ⟨u, h2, h3, _⟩ := hc 0 x hx
  rw [add_zero] at h2
  refine ⟨u, ?_, h3⟩
  simp only [execOp, ho, h1, Instr.loadAt, Instr.sureAddr, loadVar, Sem.run_bind, Sem.run_pure, Result.andThen_ok, ha, Bool.false_eq_true, if_false, run_load, rcell_cell hr h2]
theorem w_fldE {fs : Array Field} {fd : Field} {k m : Nat} {xs ys : List AV} (ho : o.op = .fieldAddr t p k) (ht : P.underlying t = some (.struct fs)) (hk : fs[k]? = some fd) (hs : ∀ w, (sizeOf fd.type).run P w = .ok (m + 1) w)
    (hp : Ev E p (AV.eptr xs)) (hy : xs.drop fd.offset = ys) : OpW P G n own o E (AV.eptr ys) := opW_val fun R a w hr he => by
  obtain ⟨ad, h1, hc⟩ := ev_use hp (by simp [ho, Op.operands]) he
  refine ⟨.pointer (some (ad.add fd.offset)), ?_, _, rfl, fun j x hx => ?_⟩
  · simp only [execOp, ho, h1, Instr.fieldAt, run_underlying ht, hk, Instr.sureAddr, fieldPlace, hs, Sem.run_bind, Sem.run_pure, Result.andThen_ok, Sem.run_ite, Nat.add_eq_zero_iff, Nat.succ_ne_self, Nat.one_ne_zero, and_false, if_false]
  · rw [add_add]
    exact hc _ x (by rw [← hx, ← hy, List.getElem?_drop])
theorem w_fld1 {fs : Array Field} {fd : Field} {k : Nat} {xs : List AV} {x : AV} (ho : o.op = .field t p k) (ht : P.underlying t = some (.struct fs)) (hk : fs[k]? = some fd) (ha : ∀ w, (isAgg fd.type).run P w = .ok false w)
    (hp : Ev E p (AV.agg xs)) (hx : xs[fd.offset]? = some x) : OpW P G n own o E x := opW_val fun R a w hr he => by
  obtain ⟨vs, h1, hl, hc⟩ := ev_use hp (by simp [ho, Op.operands]) he
  have hlt : fd.offset < vs.length := by rw [hl]; exact (List.getElem?_eq_some_iff.1 hx).1
  have hv : vs[fd.offset]? = some vs[fd.offset] := List.getElem?_eq_getElem hlt
  refine ⟨vs[fd.offset], ?_, (hc _ _ x hv hx).1⟩
  simp only [execOp, ho, h1, Instr.field, run_underlying ht, hk, part, ha, asAgg, Sem.run_bind, Sem.run_pure, Result.andThen_ok, Bool.false_eq_true, if_false, List.getElem?_toArray, hv]
theorem w_fldA {fs : Array Field} {fd : Field} {k m : Nat} {xs ys : List AV} (ho : o.op = .field t p k) (ht : P.underlying t = some (.struct fs)) (hk : fs[k]? = some fd) (ha : ∀ w, (isAgg fd.type).run P w = .ok true w) (hs : ∀ w, (sizeOf fd.type).run P w = .ok m w)
    (hp : Ev E p (AV.agg xs)) (hx : (xs.drop fd.offset).take m = ys) : OpW P G n own o E (AV.agg ys) := opW_val fun R a w hr he => by
  obtain ⟨vs, h1, hl, hc⟩ := ev_use hp (by simp [ho, Op.operands]) he
  refine ⟨.agg ((vs.drop fd.offset).take m).toArray, ?_, _, rfl, by rw [← hx]; simp [hl], fun i v x hv hy => ?_⟩
  · have h9 : vs.toArray.extract fd.offset (fd.offset + m) = ((vs.drop fd.offset).take m).toArray := by
      simp [List.extract_toArray, List.extract_eq_take_drop]
    simp only [execOp, ho, h1, Instr.field, run_underlying ht, hk, part, ha, hs, asAgg, Sem.run_bind, Sem.run_pure, Result.andThen_ok, if_true, h9]
  · subst hx
    by_cases him : i < m
    · rw [List.getElem?_take_of_lt him, List.getElem?_drop] at hv hy
      exact hc _ v x hv hy
    · rw [List.getElem?_eq_none (by simp; omega)] at hv; cases hv
theorem w_extract {k : Nat} {xs : List AV} {x : AV} (ho : o.op = .extract p k) (hp : Ev E p (AV.tup xs)) (hx : xs[k]? = some x) : OpW P G n own o E x := opW_val fun R a w hr he => by
  obtain ⟨vs, h1, hl, hc⟩ := ev_use hp (by simp [ho, Op.operands]) he
  have hlt : k < vs.length := by rw [hl]; exact (List.getElem?_eq_some_iff.1 hx).1
  have hv : vs[k]? = some vs[k] := List.getElem?_eq_getElem hlt
  refine ⟨vs[k], ?_, hc _ _ x hv hx⟩
  simp only [execOp, ho, h1, Instr.extract, List.getElem?_toArray, hv, Sem.run_bind, Sem.run_pure, Result.andThen_ok]
end lists

/-! ### A contract -/
def FSpec (P : Program) (f : FuncId) (xs : List AV) (y : AV) : Prop :=
  ∀ (R : RHeap) (w : World) (vs : List Value), RLe R w → DenV R vs xs →
    Calls P f vs.toArray w fun e w' => ∃ v R', e = .returned v ∧ y.den R' v ∧ RLe R' w' ∧ (∀ b, b < w.heap.size → R' b = R b) ∧ Below w.heap.size w w'
def EvL (E : EnvF) : List Operand → List AV → Prop
  | [], [] => True
  | p :: ps, x :: xs => Ev E p x ∧ EvL E ps xs
  | _, _ => False
theorem evl_nil : EvL E [] [] := trivial
theorem evl_cons {p : Operand} {ps : List Operand} {x : AV} {xs : List AV} (h : Ev E p x) (k : EvL E ps xs) : EvL E (p :: ps) (x :: xs) := ⟨h, k⟩
theorem evl_use {R : RHeap} {a : Act} (he : ∀ t ∈ tmpsOf o, ∀ y, E t = some y → y.den R (a.tmps.getD t undef)) : ∀ {ps : List Operand} {xs : List AV}, EvL E ps xs → (∀ p ∈ ps, p ∈ o.op.operands.toList) → DenV R (ps.map a.eval) xs
  | [], [], _, _ => DenV.nil R
  | p :: ps, x :: xs, ⟨h, k⟩, hm => DenV.cons (ev_use h (hm p (by simp)) he) (evl_use he k fun q hq => hm q (by simp [hq]))
  | [], _ :: _, h, _ => h.elim
  | _ :: _, [], h, _ => h.elim
theorem rsub_of {R R' : RHeap} {w : World} (hr : RLe R w) (h : ∀ b, b < w.heap.size → R' b = R b) : RSub R R' := fun b o e => by
  have := hr b o e
  rw [h b (Array.getElem?_eq_some_iff.1 this).1]; exact e
theorem Own.ok_blk {R : RHeap} {w : World} {o : Own} (h : Own.ok R w o) {b : Nat} (hb : Own.blk o = some b) : R b = none ∧ b < w.heap.size := by
  cases o with
  | box b' t cs =>
    simp [Own.blk] at hb; subst hb
    obtain ⟨h1, vs, h2, _⟩ := h
    exact ⟨h1, (Array.getElem?_eq_some_iff.1 h2).1⟩
  | arr v t sz es =>
    obtain ⟨h1, _, xs, h2, _⟩ := h
    exact ⟨h1 b hb, (h2.lt b hb).2⟩
/-- What is owned stays, where its block stays as it was. -/
theorem Own.ok_keep {R R' : RHeap} {w w' : World} {o : Own} (h : Own.ok R w o) (hr : RSub R R') (hk : ∀ b, Own.blk o = some b → w'.heap[b]? = w.heap[b]? ∧ R' b = none) : Own.ok R' w' o := by
  cases o with
  | box b t cs =>
    obtain ⟨h1, vs, h2, h3⟩ := h
    obtain ⟨k1, k2⟩ := hk b rfl
    exact ⟨k2, vs, by rw [k1]; exact h2, h3.mono hr⟩
  | arr v t sz es =>
    obtain ⟨h1, hl, xs, h2, h3⟩ := h
    refine ⟨fun b hb => (hk b hb).2, hl, xs, ⟨h2.1, ?_⟩, h3.mono hr⟩
    rcases h2.2 with h4 | ⟨g, cap, cur, rfl, hb, hg, rest⟩
    · exact .inl h4
    · exact .inr ⟨g, cap, cur, rfl, hb, by rw [(hk g rfl).1]; exact hg, rest⟩
theorem Core.step {w0 : World} {R0 R R' : RHeap} {w w' : World} (h : Core G w0 R0 own R w) (hb : Below w.heap.size w w') (hr : RLe R' w') (hk : ∀ b, b < w.heap.size → R' b = R b) : Core G w0 R0 own R' w' where
  os := hb.os.trans h.os
  tape := hb.tape.trans h.tape
  output := hb.output.trans h.output
  size := Nat.le_trans h.size hb.size
  block k hk1 hk2 := (hb.block k (Nat.lt_of_lt_of_le hk1 h.size)).trans (h.block k hk1 hk2)
  rle := hr
  rold b hb' := (hk b (Nat.lt_of_lt_of_le hb' h.size)).trans (h.rold b hb')
  owned o ho := by
    have hh := h.owned o ho
    exact Own.ok_keep hh (rsub_of h.rle hk) fun b hb' => by
      obtain ⟨k1, k2⟩ := Own.ok_blk hh hb'
      exact ⟨hb.block b k2, (hk b k2).trans k1⟩
  fresh := h.fresh
  sep := h.sep
theorem w_call {f : FuncId} {args : Array Operand} {tys : Array TypeId} {ps : List Operand} {xs : List AV} {y : AV} (ho : o.op = .call { callee := .value (.func f), args := args, argTypes := tys }) (hc : ∀ (vs : Array Value) (w : World), (callFunc f vs).run P w = .ok (.enter f vs) w)
    (hps : args.toList = ps) (hs : FSpec P f xs y) (he : EvL E ps xs) : OpW P G n own o E y := fun w0 R0 R a w hcore _ hen => by
  have hd := evl_use hen he fun p hp => by simp [ho, Op.operands, Call.operands]; right; rw [← hps] at hp; exact Array.mem_toList_iff.1 hp
  have hrun : (execOp a.eval o).run P w = .ok (.enter f (ps.map a.eval).toArray) w := by
    have hargs : args.map a.eval = (ps.map a.eval).toArray := by rw [← hps]; cases args; simp
    simp only [execOp, ho, resolve, hargs, show a.eval (.func f) = .func (.func f) #[] #[] from rfl]
    simp [Deferred.ofValue, invoke, hc]
  unfold Oper.wp
  rw [hrun, Oper.upon_enter]
  refine (hs R w _ hcore.rle hd).mono fun e w' ⟨v, R', e1, e2, e3, e4, e5⟩ => ?_
  subst e1
  exact ⟨v, R', rfl, hcore.step e5 e3 e4, rsub_of hcore.rle e4, e2⟩
/-- A call of a function for which the model stands in: it answers here and now. -/
def ESpec (P : Program) (f : FuncId) (xs : List AV) (y : AV) : Prop := ∀ (R : RHeap) (w : World) (vs : List Value), DenV R vs xs → ∃ v, (callFunc f vs.toArray).run P w = .ok (.value v) w ∧ y.den R v
theorem espec_mk {f : FuncId} {xs : List AV} {y : AV} (h : ∀ (R : RHeap) (w : World) (vs : List Value), DenV R vs xs → ∃ v, (callFunc f vs.toArray).run P w = .ok (.value v) w ∧ y.den R v) : ESpec P f xs y := h
theorem fspec_mk {f : FuncId} {xs : List AV} {y : AV} (h : ∀ (R : RHeap) (w : World) (vs : List Value), RLe R w → DenV R vs xs →
    Calls P f vs.toArray w fun e w' => ∃ v R', e = .returned v ∧ y.den R' v ∧ RLe R' w' ∧ (∀ b, b < w.heap.size → R' b = R b) ∧ Below w.heap.size w w') : FSpec P f xs y := h
theorem fspec_use {f : FuncId} {xs : List AV} {y : AV} (h : FSpec P f xs y) {R : RHeap} {w : World} {vs : List Value} (h1 : RLe R w) (h2 : DenV R vs xs) :
    Calls P f vs.toArray w fun e w' => ∃ v R', e = .returned v ∧ y.den R' v ∧ RLe R' w' ∧ (∀ b, b < w.heap.size → R' b = R b) ∧ Below w.heap.size w w' := h R w vs h1 h2
theorem w_ext {f : FuncId} {args : Array Operand} {tys : Array TypeId} {ps : List Operand} {xs : List AV} {y : AV} (ho : o.op = .call { callee := .value (.func f), args := args, argTypes := tys })
    (hps : args.toList = ps) (hs : ESpec P f xs y) (he : EvL E ps xs) : OpW P G n own o E y := opW_val fun R a w hr hen => by
  have hd := evl_use hen he fun p hp => by simp [ho, Op.operands, Call.operands]; right; rw [← hps] at hp; exact Array.mem_toList_iff.1 hp
  obtain ⟨v, h1, h2⟩ := hs R w _ hd
  refine ⟨v, ?_, h2⟩
  have hargs : args.map a.eval = (ps.map a.eval).toArray := by rw [← hps]; cases args; simp
  simp only [execOp, ho, resolve, hargs, show a.eval (.func f) = .func (.func f) #[] #[] from rfl]
  simp [Deferred.ofValue, invoke, h1]
theorem denV_two {R : RHeap} {vs : List Value} {x y : AV} (h : DenV R vs [x, y]) : ∃ v u, vs = [v, u] ∧ x.den R v ∧ y.den R u := by
  match vs, h.1 with
  | [v, u], _ => exact ⟨v, u, rfl, h.2 0 v x rfl rfl, h.2 1 u y rfl rfl⟩
end
end Go.AV
