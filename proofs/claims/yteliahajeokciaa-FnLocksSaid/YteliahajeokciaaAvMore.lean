/- Rules: values put together, rows put together, functions as values, calls that read what the caller owns. -/
import Derived.Test.YteliahajeokciaaAvOwn
import Derived.Laws.StructEq
set_option linter.unusedVariables false
set_option linter.unusedSimpArgs false
namespace Go.AV
open Go.RowKit (Below)

/-! ### Values put together -/
def afill (place : Nat → Option (Nat × Nat)) (cs : List AV) : List (Nat × List AV) → Option (List AV)
  | [] => some cs
  | (i, ys) :: rest =>
    match place i with
    | none => none
    | some (off, size) => bif Nat.beq ys.length size && Nat.ble (off + ys.length) cs.length then afill place (splice cs off ys) rest else none
theorem foldl_splice (off : Nat) : ∀ (us : List Value) (k : Nat) (cs : Array Value), off + k + us.length ≤ cs.size →
    ((us.zipIdx k).foldl (fun cs (p : Value × Nat) => cs.setIfInBounds (off + p.2) p.1) cs).toList = cs.toList.take (off + k) ++ us ++ cs.toList.drop (off + k + us.length)
  | [], k, cs, _ => by simp
  | u :: us, k, cs, h => by
    simp only [List.length_cons] at h
    rw [List.zipIdx_cons, List.foldl_cons, foldl_splice off us (k + 1) _ (by simp; omega)]
    simp only [Array.toList_setIfInBounds, List.length_cons]
    have e1 : (cs.toList.set (off + k) u).take (off + (k + 1)) = cs.toList.take (off + k) ++ [u] := by
      rw [show off + (k + 1) = off + k + 1 by omega, List.take_succ_eq_append_getElem (by simp; omega)]
      rw [List.take_set_of_le (by omega)]
      simp
    have e2 : (cs.toList.set (off + k) u).drop (off + (k + 1) + us.length) = cs.toList.drop (off + k + (us.length + 1)) := by
      rw [List.drop_set_of_lt (by omega)]
      congr 1
      omega
    rw [e1, e2]
    simp
theorem fill_den {R : RHeap} {place : Nat → Option (Nat × Nat)} : ∀ (ps : List (Nat × Value)) (as : List (Nat × List AV)) (cells : Array Value) (cs cs' : List AV), DenC R cells.toList cs →
    ps.map (·.1) = as.map (·.1) → (∀ (i : Nat) (p : Nat × Value) (a : Nat × List AV), ps[i]? = some p → as[i]? = some a → DenC R p.2.cells.toList a.2) → afill place cs as = some cs' →
    ∃ cells', Instr.fill place cells ps = some cells' ∧ DenC R cells'.toList cs'
  | [], [], cells, cs, cs', h, _, _, ha => by
    simp only [afill, Option.some.injEq] at ha
    subst ha
    exact ⟨cells, rfl, h⟩
  | (i, v) :: ps, (j, ys) :: as, cells, cs, cs', h, hm, hd, ha => by
    simp only [List.map_cons, List.cons.injEq] at hm
    obtain ⟨hij, hm⟩ := hm
    subst hij
    have hv := hd 0 (i, v) (i, ys) rfl rfl
    simp only [afill] at ha
    simp only [Instr.fill]
    cases hp : place i with
    | none => rw [hp] at ha; cases ha
    | some os =>
      obtain ⟨off, size⟩ := os
      rw [hp] at ha
      simp only at ha
      cases hb : (Nat.beq ys.length size && Nat.ble (off + ys.length) cs.length) with
      | false => rw [hb] at ha; cases ha
      | true =>
        rw [hb] at ha
        simp only [cond_true] at ha
        simp only [Bool.and_eq_true] at hb
        have h1 : ys.length = size := Nat.eq_of_beq_eq_true hb.1
        have h2 := Nat.le_of_ble_eq_true hb.2
        have h3 : v.cells.size = ys.length := by rw [← Array.length_toList]; exact hv.1
        have h4 : cells.size = cs.length := by rw [← Array.length_toList]; exact h.1
        have hneg : (decide (v.cells.size ≠ size) || decide (off + v.cells.size > cells.size)) = false := by
          have e1 : v.cells.size = size := by omega
          have e2 : ¬ (off + v.cells.size > cells.size) := by omega
          simp [e1]; omega
        simp only [hneg, Bool.false_eq_true, if_false]
        have hfold := foldl_splice off v.cells.toList 0 cells (by simp; omega)
        refine fill_den ps as _ _ cs' ?_ hm (fun k p a hk ha => hd (k + 1) p a (by simpa using hk) (by simpa using ha)) ha
        have e : (Array.foldl (fun cs (x : Value × Nat) => cs.setIfInBounds (off + x.2) x.1) cells v.cells.zipIdx).toList = cells.toList.take off ++ v.cells.toList ++ cells.toList.drop (off + v.cells.toList.length) := by
          rw [← Array.foldl_toList, Array.toList_zipIdx]
          simpa using hfold
        show DenC R (Array.foldl (fun cs (x : Value × Nat) => cs.setIfInBounds (off + x.2) x.1) cells v.cells.zipIdx).toList _
        rw [e]
        exact denC_splice h hv h2
  | [], _ :: _, _, _, _, _, hm, _, _ => by simp at hm
  | _ :: _, [], _, _, _, _, hm, _, _ => by simp at hm
section
variable {P : Program} {G : Nat → Prop} {n : Nat} {own : List Own} {o : Oper} {E : EnvF}
/-- The parts of a value: operands that denote cells. -/
def EvP (E : EnvF) : List (Nat × Operand) → List (Nat × List AV) → Prop
  | [], [] => True
  | (i, p) :: ps, (j, ys) :: as => i = j ∧ (∃ x, Ev E p x ∧ AsCells x ys) ∧ EvP E ps as
  | _, _ => False
theorem bp_nil : EvP E [] [] := trivial
theorem bp_cons {i : Nat} {p : Operand} {x : AV} {ys : List AV} {ps : List (Nat × Operand)} {as : List (Nat × List AV)} (h : Ev E p x) (hx : AsCells x ys) (k : EvP E ps as) : EvP E ((i, p) :: ps) ((i, ys) :: as) := ⟨rfl, ⟨x, h, hx⟩, k⟩
theorem evp_use {R : RHeap} {a : Act} (he : ∀ t ∈ tmpsOf o, ∀ y, E t = some y → y.den R (a.tmps.getD t undef)) : ∀ {ps : List (Nat × Operand)} {as : List (Nat × List AV)}, EvP E ps as → (∀ p ∈ ps, p.2 ∈ o.op.operands.toList) →
    (ps.map fun p => (p.1, a.eval p.2)).map (·.1) = as.map (·.1) ∧ ∀ (i : Nat) (p : Nat × Value) (b : Nat × List AV), (ps.map fun p => (p.1, a.eval p.2))[i]? = some p → as[i]? = some b → DenC R p.2.cells.toList b.2
  | [], [], _, _ => ⟨rfl, fun i p b h => by simp at h⟩
  | (i, p) :: ps, (j, ys) :: as, ⟨h1, ⟨x, h2, h3⟩, h4⟩, hm => by
    obtain ⟨k1, k2⟩ := evp_use he h4 fun q hq => hm q (by simp [hq])
    refine ⟨by simp only [List.map_cons, h1]; rw [k1], fun k q b hq hb => ?_⟩
    cases k with
    | zero =>
      simp at hq hb; subst hq; subst hb
      exact h3 R _ (ev_use h2 (hm (i, p) (by simp)) he)
    | succ k => exact k2 k q b (by simpa using hq) (by simpa using hb)
  | [], _ :: _, h, _ => h.elim
  | _ :: _, [], h, _ => h.elim
theorem w_build {t : TypeId} {fs : Array Field} {z : Value} {ps : Array (Nat × Operand)} {as : List (Nat × List AV)} {places : Array (Nat × Nat)} {cs : List AV} (ho : o.op = .build t ps) (ht : P.underlying t = some (.struct fs)) (hz : ∀ w, (zeroValue t).run P w = .ok z w)
    (hpl : ∀ w, (fs.mapM (m := Sem) fun f => do pure (f.offset, ← sizeOf f.type)).run P w = .ok places w) (h1' : z.cells.toList.all Value.oneCell' = true) (hp : EvP E ps.toList as) (hc : afill (places[·]?) (z.cells.toList.map zeroA) as = some cs) :
    OpW P G n own o E (AV.agg cs) := opW_val fun R a w hr he => by
  obtain ⟨k1, k2⟩ := evp_use he hp fun p hpm => by simp [ho, Op.operands]; exact ⟨p.1, by simpa using hpm⟩
  obtain ⟨cells', h2, h3⟩ := fill_den (R := R) (place := (places[·]?)) _ as z.cells _ cs ⟨by simp, fun i v y hv hy => by
    rw [List.getElem?_map, hv] at hy
    simp at hy; subst hy
    exact ⟨zeroA_den R v, List.all_eq_true.1 h1' v (List.mem_of_getElem? hv)⟩⟩ k1 k2 hc
  refine ⟨.agg cells', ?_, cells'.toList, rfl, h3⟩
  have h4 : (ps.map fun (i, x) => (i, a.eval x)).toList = ps.toList.map fun p => (p.1, a.eval p.2) := by simp
  simp only [execOp, ho, Instr.build, hz, run_underlying ht, hpl, h4, h2, Sem.run_bind, Sem.run_pure, Result.andThen_ok]

/-! ### Rows put together: sealed at once -/
def sealB (R : RHeap) (b : Nat) (o : Obj) : RHeap := fun k => bif Nat.beq k b then some o else R k
theorem sealB_sub {R : RHeap} {b : Nat} {o : Obj} (h : R b = none) : RSub R (sealB R b o) := fun k x hx => by
  unfold sealB
  cases hb : Nat.beq k b with
  | true => rw [Nat.eq_of_beq_eq_true hb, h] at hx; cases hx
  | false => exact hx
theorem sealB_self {R : RHeap} {b : Nat} {o : Obj} : sealB R b o b = some o := by simp [sealB, Nat.beq_refl]
theorem sealB_other {R : RHeap} {b k : Nat} {o : Obj} (h : k ≠ b) : sealB R b o k = R k := by simp [sealB, nat_beq_ne h]
theorem below_alloc (w : World) (o : Obj) : Below w.heap.size w (w.alloc o) := ⟨rfl, rfl, rfl, by simp, fun k hk => Below.heap_alloc w o k hk⟩
theorem rle_none {R : RHeap} {w : World} (h : RLe R w) : R w.heap.size = none := by
  cases hr : R w.heap.size with
  | none => rfl
  | some o => have := (Array.getElem?_eq_some_iff.1 (h _ _ hr)).1; omega
theorem core_seal_new {w0 : World} {R0 R : RHeap} {w : World} (h : Core G w0 R0 own R w) (ob : Obj) : Core G w0 R0 own (sealB R w.heap.size ob) (w.alloc ob) :=
  h.step (below_alloc w ob) (fun b x hx => by
    by_cases hb : b = w.heap.size
    · subst hb
      rw [sealB_self] at hx
      rw [← hx]; exact heap_alloc_new w ob
    · rw [sealB_other hb] at hx
      have := h.rle b x hx
      exact (Below.heap_alloc w ob b (Array.getElem?_eq_some_iff.1 this).1).trans this) fun b hb => sealB_other (by omega)
theorem list_of_row {R : RHeap} {b : Nat} {t : TypeId} {vs : List Value} {sz cap : Nat} {es : List (List AV)} (hb : R b = some (.cells vs.toArray t (0, 0))) (hd : DenC R vs es.flatten) (hu : ∀ e ∈ es, e.length = sz) (hc : es.length ≤ cap) (hm : cap ≤ maxLen) :
    (AV.list sz es).den R (.slice (some ⟨b, 0, none⟩) es.length cap) :=
  ⟨_, cap, rfl, hc, hm, hu, fun _ => ⟨_, rfl, fun j x hx => by
    have hj : j < vs.length := by rw [hd.1]; exact (List.getElem?_eq_some_iff.1 hx).1
    have hv : vs[j]? = some vs[j] := List.getElem?_eq_getElem hj
    have ha : ((⟨b, 0, none⟩ : Addr).add j) = ⟨b, j, none⟩ := by unfold Addr.add; split <;> simp_all
    exact ⟨vs[j], by rw [ha]; simp [rcell, hb, hv], hd.2 j _ x hv hx⟩⟩⟩
/-- 'n' elements of the same size, one behind the other. -/
def chunks (sz : Nat) : Nat → List AV → List (List AV)
  | 0, _ => []
  | n + 1, cs => cs.take sz :: chunks sz n (cs.drop sz)
theorem chunks_len (sz : Nat) : ∀ (n : Nat) (cs : List AV), (chunks sz n cs).length = n
  | 0, _ => rfl
  | n + 1, cs => by simp [chunks, chunks_len sz n]
theorem chunks_flat (sz : Nat) : ∀ (n : Nat) (cs : List AV), cs.length = n * sz → (chunks sz n cs).flatten = cs ∧ ∀ e ∈ chunks sz n cs, e.length = sz
  | 0, cs, h => by
    have : cs = [] := List.eq_nil_of_length_eq_zero (by simpa using h)
    subst this; exact ⟨rfl, fun e he => by simp [chunks] at he⟩
  | n + 1, cs, h => by
    rw [Nat.add_mul] at h
    obtain ⟨h1, h2⟩ := chunks_flat sz n (cs.drop sz) (by simp; omega)
    refine ⟨by simp [chunks, h1], fun e he => ?_⟩
    simp only [chunks, List.mem_cons] at he
    rcases he with rfl | he
    · simp; omega
    · exact h2 e he
theorem w_bslice {t e : TypeId} {len sz : Nat} {z : Value} {ps : Array (Nat × Operand)} {as : List (Nat × List AV)} {cs : List AV} {es : List (List AV)} (ho : o.op = .buildSlice t len ps) (ht : P.underlying t = some (.slice e)) (hsz : ∀ w, (sizeOf e).run P w = .ok sz w) (hz : ∀ w, (zeroValue e).run P w = .ok z w)
    (hl : Nat.ble (len * sz) 1000 = true) (hl2 : Nat.ble len 1000 = true) (hzs : z.cells.size = sz) (h1' : z.cells.toList.all Value.oneCell' = true) (hp : EvP E ps.toList as) (hc : afill (fun i => some (i * sz, sz)) ((List.range (len * sz)).map fun i => zeroA (z.cells[i % z.cells.size]!)) as = some cs) (hes : chunks sz len cs = es) :
    OpW P G n own o E (AV.list sz es) := fun w0 R0 R a w hcore _ he => by
  obtain ⟨k1, k2⟩ := evp_use he hp fun p hpm => by simp [ho, Op.operands]; exact ⟨p.1, by simpa using hpm⟩
  have hone : ∀ i, i < len * sz → (z.cells[i % z.cells.size]!).oneCell' = true := fun i hi => by
    have hpos : 0 < z.cells.size := by
      rw [hzs]
      rcases Nat.eq_zero_or_pos sz with h0 | h0
      · subst h0; simp at hi
      · exact h0
    rw [getElem!_pos z.cells _ (Nat.mod_lt _ hpos)]
    exact List.all_eq_true.1 h1' _ (by simp)
  obtain ⟨cells', h2, h3⟩ := fill_den (R := R) (place := fun i => some (i * sz, sz)) _ as ((Array.range (len * sz)).map fun i => z.cells[i % z.cells.size]!) _ cs ⟨by simp, fun i v y hv hy => by
    rw [Array.toList_map, List.getElem?_map, Array.toList_range] at hv
    rw [List.getElem?_map] at hy
    by_cases hi : i < len * sz
    · rw [List.getElem?_range hi] at hv hy
      simp only [Option.map_some, Option.some.injEq] at hv hy
      rw [← hv, ← hy]
      exact ⟨zeroA_den R _, hone i hi⟩
    · rw [List.getElem?_eq_none (by simp; omega)] at hv; cases hv⟩ k1 k2 hc
  have hlen := Nat.le_of_ble_eq_true hl
  have h5 : cells'.toList.length = len * sz := by
    rw [h3.1]
    have : ∀ (as : List (Nat × List AV)) (cs cs' : List AV), afill (fun i => some (i * sz, sz)) cs as = some cs' → cs'.length = cs.length := by
      intro as
      induction as with
      | nil => intro cs cs' h; simp only [afill, Option.some.injEq] at h; rw [h]
      | cons b as ih =>
        intro cs cs' h
        obtain ⟨i, ys⟩ := b
        simp only [afill] at h
        cases hb : (Nat.beq ys.length sz && Nat.ble (i * sz + ys.length) cs.length) with
        | false => rw [hb] at h; cases h
        | true =>
          rw [hb] at h
          simp only [Bool.and_eq_true] at hb
          have := Nat.le_of_ble_eq_true hb.2
          rw [ih _ _ h]
          simp [splice]; omega
    rw [this as _ cs hc]; simp
  have hch := chunks_flat sz len cs (by rw [← h3.1]; exact h5)
  have h4 : (ps.map fun (i, x) => (i, a.eval x)).toList = ps.toList.map fun p => (p.1, a.eval p.2) := by simp
  have hrun : (execOp a.eval o).run P w = .ok (.value (.slice (some ⟨w.heap.size, 0, none⟩) len len)) (w.alloc (.cells cells' e)) := by
    have hcap : ¬ (len * sz > 2 ^ 24) := by omega
    by_cases h0 : len * sz = 0
    · have h7 : (Array.range (len * sz)).map (fun x => (#[] : Array Value)[x % (#[] : Array Value).size]!) = (Array.range (len * sz)).map fun i => z.cells[i % z.cells.size]! := by rw [h0]; simp
      rw [← h7] at h2
      simp only [execOp, ho, Instr.buildSlice, run_underlying ht, hsz, hcap, if_false, Sem.run_bind, Sem.run_pure, Result.andThen_ok, Sem.run_ite, if_pos h0, h4, h2, newRow, run_newObj, World.alloc_eq]
    · simp only [execOp, ho, Instr.buildSlice, run_underlying ht, hsz, hcap, if_false, Sem.run_bind, Sem.run_pure, Result.andThen_ok, Sem.run_ite, if_neg h0, hz, h4, h2, newRow, run_newObj, World.alloc_eq]
  unfold Oper.wp
  rw [hrun, Oper.upon_value]
  have hRn := rle_none hcore.rle
  refine ⟨_, sealB R w.heap.size (.cells cells' e), rfl, core_seal_new hcore _, sealB_sub hRn, ?_⟩
  have hd' : DenC (sealB R w.heap.size (.cells cells' e)) cells'.toList es.flatten := by
    rw [← hes, hch.1]
    exact h3.mono (sealB_sub hRn)
  have hlz : es.length = len := by rw [← hes, chunks_len]
  have := list_of_row (R := sealB R w.heap.size (.cells cells' e)) (b := w.heap.size) (t := e) (vs := cells'.toList) (sz := sz) (cap := len) (es := es) (by rw [sealB_self]) hd' (by rw [← hes]; exact hch.2) (by omega) (by
    have := Nat.le_of_ble_eq_true hl2
    unfold maxLen
    omega)
  rw [hlz] at this
  exact this

/-! ### Functions as values -/
def Flat (x : AV) : Prop := ∀ R R' v, x.den R v → x.den R' v
theorem flat_ik (k : IntKind) (m : Int) : Flat (AV.ik k m) := fun _ _ _ h => h
theorem flat_bool (b : Bool) : Flat (AV.bool b) := fun _ _ _ h => h
theorem flat_str (s : List UInt8) : Flat (AV.str s) := fun _ _ _ h => h
theorem flat_is (v : Value) : Flat (AV.is v) := fun _ _ _ h => h
/-- What a call of a function value comes to. -/
def CallPost (R : RHeap) (w : World) (y : AV) (e : Ending) (w' : World) : Prop :=
  ∃ v R', e = .returned v ∧ y.den R' v ∧ RLe R' w' ∧ (∀ b, b < w.heap.size → R' b = R b) ∧ Below w.heap.size w w'
/-- A function value of one argument: for each a that meets 'pre', called with dom a it answers cod a. -/
def AV.fun1 (P : Program) {α : Type} (pre : α → Prop) (dom cod : α → AV) : AV :=
  ⟨fun R v => ∃ f caps, v = .func (.func f) #[] caps ∧ (∀ (vs : Array Value) (w : World), (callFunc f vs).run P w = .ok (.enter f vs) w) ∧
      ∀ (a : α) (R' : RHeap) (w : World) (u : Value), pre a → RSub R R' → RLe R' w → (dom a).den R' u → Calls P f (#[u] ++ caps) w (CallPost R' w (cod a)),
   fun h ⟨f, caps, h1, h2, h3⟩ => ⟨f, caps, h1, h2, fun a R' w u hp hr => h3 a R' w u hp (h.trans hr)⟩⟩
def AV.fun2 (P : Program) {α β : Type} (pre : α → β → Prop) (dom1 : α → AV) (dom2 : β → AV) (cod : α → β → AV) : AV :=
  ⟨fun R v => ∃ f caps, v = .func (.func f) #[] caps ∧ (∀ (vs : Array Value) (w : World), (callFunc f vs).run P w = .ok (.enter f vs) w) ∧
      ∀ (a : α) (b : β) (R' : RHeap) (w : World) (u1 u2 : Value), pre a b → RSub R R' → RLe R' w → (dom1 a).den R' u1 → (dom2 b).den R' u2 → Calls P f (#[u1, u2] ++ caps) w (CallPost R' w (cod a b)),
   fun h ⟨f, caps, h1, h2, h3⟩ => ⟨f, caps, h1, h2, fun a b R' w u1 u2 hp hr => h3 a b R' w u1 u2 hp (h.trans hr)⟩⟩
theorem w_callv1 {α : Type} {pre : α → Prop} {dom cod : α → AV} {p q : Operand} {tys : Array TypeId} (ho : o.op = .call { callee := .value p, args := #[q], argTypes := tys }) (hp : Ev E p (AV.fun1 P pre dom cod)) (a0 : α) (hpre : pre a0) (hq : Ev E q (dom a0)) : OpW P G n own o E (cod a0) := fun w0 R0 R a w hcore _ hen => by
  obtain ⟨f, caps, h1, h2, h3⟩ := ev_use hp (by simp [ho, Op.operands, Call.operands]) hen
  have h4 := ev_use hq (by simp [ho, Op.operands, Call.operands]) hen
  have hrun : (execOp a.eval o).run P w = .ok (.enter f (#[a.eval q] ++ caps)) w := by
    simp only [execOp, ho, resolve, h1]
    simp [Deferred.ofValue, invoke, h2]
  unfold Oper.wp
  rw [hrun, Oper.upon_enter]
  refine (h3 a0 R w _ hpre (RSub.refl _) hcore.rle h4).mono fun e w' ⟨v, R', e1, e2, e3, e4, e5⟩ => ?_
  subst e1
  exact ⟨v, R', rfl, hcore.step e5 e3 e4, rsub_of hcore.rle e4, e2⟩
theorem w_callv2 {α β : Type} {pre : α → β → Prop} {dom1 : α → AV} {dom2 : β → AV} {cod : α → β → AV} {p q1 q2 : Operand} {tys : Array TypeId} (ho : o.op = .call { callee := .value p, args := #[q1, q2], argTypes := tys }) (hp : Ev E p (AV.fun2 P pre dom1 dom2 cod)) (a0 : α) (b0 : β) (hpre : pre a0 b0) (hq1 : Ev E q1 (dom1 a0)) (hq2 : Ev E q2 (dom2 b0)) : OpW P G n own o E (cod a0 b0) := fun w0 R0 R a w hcore _ hen => by
  obtain ⟨f, caps, h1, h2, h3⟩ := ev_use hp (by simp [ho, Op.operands, Call.operands]) hen
  have h4 := ev_use hq1 (by simp [ho, Op.operands, Call.operands]) hen
  have h5 := ev_use hq2 (by simp [ho, Op.operands, Call.operands]) hen
  have hrun : (execOp a.eval o).run P w = .ok (.enter f (#[a.eval q1, a.eval q2] ++ caps)) w := by
    simp only [execOp, ho, resolve, h1]
    simp [Deferred.ofValue, invoke, h2]
  unfold Oper.wp
  rw [hrun, Oper.upon_enter]
  refine (h3 a0 b0 R w _ _ hpre (RSub.refl _) hcore.rle h4 h5).mono fun e w' ⟨v, R', e1, e2, e3, e4, e5⟩ => ?_
  subst e1
  exact ⟨v, R', rfl, hcore.step e5 e3 e4, rsub_of hcore.rle e4, e2⟩
/-- A function that captures nothing. -/
theorem fun1_of {α : Type} {pre : α → Prop} {dom cod : α → AV} {f : FuncId} (hc : ∀ (vs : Array Value) (w : World), (callFunc f vs).run P w = .ok (.enter f vs) w) (h : ∀ a, pre a → FSpec P f [dom a] (cod a)) (R : RHeap) : (AV.fun1 P pre dom cod).den R (.func (.func f) #[] #[]) :=
  ⟨f, #[], rfl, hc, fun a R' w u hp hr hle hd => (h a hp R' w [u] hle (DenV.cons hd (DenV.nil _))).mono fun e w' ⟨v, R2, h1, h2, h3, h4, h5⟩ => ⟨v, R2, h1, h2, h3, h4, h5⟩⟩
theorem fun2_of {α β : Type} {pre : α → β → Prop} {dom1 : α → AV} {dom2 : β → AV} {cod : α → β → AV} {f : FuncId} (hc : ∀ (vs : Array Value) (w : World), (callFunc f vs).run P w = .ok (.enter f vs) w) (h : ∀ a b, pre a b → FSpec P f [dom1 a, dom2 b] (cod a b)) (R : RHeap) : (AV.fun2 P pre dom1 dom2 cod).den R (.func (.func f) #[] #[]) :=
  ⟨f, #[], rfl, hc, fun a b R' w u1 u2 hp hr hle hd1 hd2 => (h a b hp R' w [u1, u2] hle (DenV.cons hd1 (DenV.cons hd2 (DenV.nil _)))).mono fun e w' ⟨v, R2, h1, h2, h3, h4, h5⟩ => ⟨v, R2, h1, h2, h3, h4, h5⟩⟩
theorem ev_fun1 {α : Type} {pre : α → Prop} {dom cod : α → AV} {f : FuncId} (hc : ∀ (vs : Array Value) (w : World), (callFunc f vs).run P w = .ok (.enter f vs) w) (h : ∀ a, pre a → FSpec P f [dom a] (cod a)) : Ev E (.func f) (AV.fun1 P pre dom cod) := fun R a _ => fun1_of hc h R
theorem ev_fun2 {α β : Type} {pre : α → β → Prop} {dom1 : α → AV} {dom2 : β → AV} {cod : α → β → AV} {f : FuncId} (hc : ∀ (vs : Array Value) (w : World), (callFunc f vs).run P w = .ok (.enter f vs) w) (h : ∀ a b, pre a b → FSpec P f [dom1 a, dom2 b] (cod a b)) : Ev E (.func f) (AV.fun2 P pre dom1 dom2 cod) := fun R a _ => fun2_of hc h R
/-- A function value with what it captures. -/
def AV.clo (f : FuncId) (xs : List AV) : AV := ⟨fun R v => ∃ vs : List Value, v = .func (.func f) #[] vs.toArray ∧ DenV R vs xs, fun h ⟨vs, e, d⟩ => ⟨vs, e, d.mono h⟩⟩
theorem w_clo {f : FuncId} {caps : Array Operand} {ps : List Operand} {xs : List AV} (ho : o.op = .makeFunc (.func f) #[] caps) (hps : caps.toList = ps) (he : EvL E ps xs) : OpW P G n own o E (AV.clo f xs) := opW_val fun R a w hr hen => by
  have hd := evl_use hen he fun p hp => by simp [ho, Op.operands]; rw [← hps] at hp; exact Array.mem_toList_iff.1 hp
  refine ⟨.func (.func f) #[] (ps.map a.eval).toArray, ?_, _, rfl, hd⟩
  have hargs : caps.map a.eval = (ps.map a.eval).toArray := by rw [← hps]; cases caps; simp
  simp only [execOp, ho, Instr.makeFunc, hargs, Sem.run_bind, Sem.run_pure, Result.andThen_ok, List.map_toArray, List.map_nil]
theorem clo_fun1 {α : Type} {pre : α → Prop} {dom cod : α → AV} {f : FuncId} {xs : List AV} (hc : ∀ (vs : Array Value) (w : World), (callFunc f vs).run P w = .ok (.enter f vs) w) (h : ∀ a, pre a → FSpec P f (dom a :: xs) (cod a)) (R : RHeap) (v : Value) (hv : (AV.clo f xs).den R v) : (AV.fun1 P pre dom cod).den R v := by
  obtain ⟨vs, rfl, hd⟩ := hv
  refine ⟨f, vs.toArray, rfl, hc, fun a R' w u hp hr hle hu => ?_⟩
  have := h a hp R' w (u :: vs) hle (DenV.cons hu (hd.mono hr))
  simp only [List.append_toArray, List.cons_append, List.nil_append]
  exact this.mono fun e w' ⟨v, R2, h1, h2, h3, h4, h5⟩ => ⟨v, R2, h1, h2, h3, h4, h5⟩
theorem clo_fun2 {α β : Type} {pre : α → β → Prop} {dom1 : α → AV} {dom2 : β → AV} {cod : α → β → AV} {f : FuncId} {xs : List AV} (hc : ∀ (vs : Array Value) (w : World), (callFunc f vs).run P w = .ok (.enter f vs) w) (h : ∀ a b, pre a b → FSpec P f (dom1 a :: dom2 b :: xs) (cod a b)) (R : RHeap) (v : Value) (hv : (AV.clo f xs).den R v) : (AV.fun2 P pre dom1 dom2 cod).den R v := by
  obtain ⟨vs, rfl, hd⟩ := hv
  refine ⟨f, vs.toArray, rfl, hc, fun a b R' w u1 u2 hp hr hle hu1 hu2 => ?_⟩
  have := h a b hp R' w (u1 :: u2 :: vs) hle (DenV.cons hu1 (DenV.cons hu2 (hd.mono hr)))
  simp only [List.append_toArray, List.cons_append, List.nil_append]
  exact this.mono fun e w' ⟨v, R2, h1, h2, h3, h4, h5⟩ => ⟨v, R2, h1, h2, h3, h4, h5⟩

/-! ### A call that reads what the caller owns -/
def ownB (own : List Own) (b : Nat) : Bool := own.any fun o => match Own.blk o with | some k => Nat.beq k b | none => false
theorem ownB_true {b : Nat} (h : ownB own b = true) : ∃ o ∈ own, Own.blk o = some b := by
  unfold ownB at h
  obtain ⟨o, ho, hb⟩ := List.any_eq_true.1 h
  refine ⟨o, ho, ?_⟩
  cases hk : Own.blk o with
  | none => rw [hk] at hb; cases hb
  | some k => rw [hk] at hb; rw [Nat.eq_of_beq_eq_true hb]
theorem ownB_mem {b : Nat} {o : Own} (ho : o ∈ own) (hb : Own.blk o = some b) : ownB own b = true := by
  unfold ownB
  exact List.any_eq_true.2 ⟨o, ho, by rw [hb]; exact Nat.beq_refl b⟩
/-- All that the call owns, lent. -/
def lend (own : List Own) (w : World) (R : RHeap) : RHeap := fun b => bif ownB own b then w.heap[b]? else R b
theorem lend_sub {w0 : World} {R0 R : RHeap} {w : World} (h : Core G w0 R0 own R w) : RSub R (lend own w R) := fun b o e => by
  unfold lend
  cases hb : ownB own b with
  | true =>
    obtain ⟨x, hx, hxb⟩ := ownB_true hb
    rw [(Own.ok_blk (h.owned x hx) hxb).1] at e; cases e
  | false => exact e
theorem lend_le {w0 : World} {R0 R : RHeap} {w : World} (h : Core G w0 R0 own R w) : RLe (lend own w R) w := fun b o e => by
  unfold lend at e
  cases hb : ownB own b with
  | true => rw [hb] at e; exact e
  | false => rw [hb] at e; exact h.rle b o e
/-- What an operand denotes while all that is owned is lent. -/
def EvB (own : List Own) (E : EnvF) (p : Operand) (x : AV) : Prop :=
  ∀ (G : Nat → Prop) (w0 : World) (R0 R : RHeap) (a : Act) (w : World), Core G w0 R0 own R w → (∀ t, p = .tmp t → ∀ y, E t = some y → y.den R (a.tmps.getD t undef)) → x.den (lend own w R) (a.eval p)
theorem evb {p : Operand} {x : AV} (h : Ev E p x) : EvB own E p x := fun G w0 R0 R a w hc he => x.mono (lend_sub hc) (h R a he)
theorem evb_weaken {p : Operand} {x y : AV} (h : EvB own E p x) (hw : ∀ R v, x.den R v → y.den R v) : EvB own E p y := fun G w0 R0 R a w hc he => hw _ _ (h G w0 R0 R a w hc he)
theorem ptr_eptr {w0 : World} {R0 R : RHeap} {w : World} {b : Nat} {t : TypeId} {cs : List AV} (hc : Core G w0 R0 own R w) (i : Nat) (hi : own[i]? = some (.box b t cs)) : (AV.eptr cs).den (lend own w R) (.pointer (some ⟨b, 0, none⟩)) := by
  have hm := List.mem_of_getElem? hi
  obtain ⟨_, vs, hb, hd⟩ := hc.owned _ hm
  have hl : lend own w R b = some (.cells vs.toArray t (0, 0)) := by
    unfold lend
    rw [ownB_mem hm rfl]; exact hb
  refine ⟨_, rfl, fun j x hx => ?_⟩
  have hj : j < vs.length := by rw [hd.1]; exact (List.getElem?_eq_some_iff.1 hx).1
  have hv : vs[j]? = some vs[j] := List.getElem?_eq_getElem hj
  have ha : ((⟨b, 0, none⟩ : Addr).add j) = ⟨b, j, none⟩ := by unfold Addr.add; split <;> simp_all
  exact ⟨vs[j], by rw [ha]; simp [rcell, hl, hv], x.mono (lend_sub hc) (hd.2 j _ x hv hx).1, (hd.2 j _ x hv hx).2⟩
theorem evb_ptr {p : Operand} {b : Nat} {t : TypeId} {cs : List AV} (i : Nat) (h : Ev E p (AV.ptr b 0)) (hi : own[i]? = some (.box b t cs)) : EvB own E p (AV.eptr cs) := fun G w0 R0 R a w hc he => by
  have : a.eval p = _ := h R a he
  rw [this]
  exact ptr_eptr hc i hi
theorem arr_list {w0 : World} {R0 R : RHeap} {w : World} {v : Value} {t : TypeId} {sz : Nat} {es : List (List AV)} (hc : Core G w0 R0 own R w) (i : Nat) (hi : own[i]? = some (.arr v t sz es)) : (AV.list sz es).den (lend own w R) v := by
  have hm := List.mem_of_getElem? hi
  obtain ⟨_, hu, xs, hown, hd⟩ := hc.owned _ hm
  rcases hown.2 with ⟨rfl, hz⟩ | ⟨g, cap, cur, rfl, _, hg, hn, hmx, hcs, htake⟩
  · have : es = [] := List.eq_nil_of_length_eq_zero hz
    subst this
    exact ⟨none, 0, rfl, Nat.le_refl _, Nat.zero_le _, by simp, fun h => absurd rfl h⟩
  · have hl : lend own w R g = some (.cells cur t (0, 0)) := by
      unfold lend
      rw [ownB_mem hm rfl]; exact hg
    refine ⟨_, cap, rfl, hn, hmx, hu, fun _ => ⟨_, rfl, fun j x hx => ?_⟩⟩
    have hj : j < xs.length := by rw [hd.1]; exact (List.getElem?_eq_some_iff.1 hx).1
    have hv : xs[j]? = some xs[j] := List.getElem?_eq_getElem hj
    have ha : ((⟨g, 0, none⟩ : Addr).add j) = ⟨g, j, none⟩ := by unfold Addr.add; split <;> simp_all
    have hcur : cur[j]? = some xs[j] := by
      have hq : xs[j]? = cur.toList[j]? := by rw [← htake, List.getElem?_take_of_lt (by rw [← hown.1]; exact hj)]
      rw [← Array.getElem?_toList, ← hq, hv]
    exact ⟨xs[j], by rw [ha]; simp [rcell, hl, hcur], x.mono (lend_sub hc) (hd.2 j _ x hv hx).1, (hd.2 j _ x hv hx).2⟩
theorem evb_arr {p : Operand} {v : Value} {t : TypeId} {sz : Nat} {es : List (List AV)} (i : Nat) (h : Ev E p (AV.is v)) (hi : own[i]? = some (.arr v t sz es)) : EvB own E p (AV.list sz es) := fun G w0 R0 R a w hc he => by
  have : a.eval p = v := h R a he
  rw [this]
  exact arr_list hc i hi
/-- A function value that captures one variable of the caller's. -/
theorem evb_clo1 {p : Operand} {f : FuncId} {b : Nat} {t : TypeId} {cs : List AV} (i : Nat) (h : Ev E p (AV.clo f [AV.ptr b 0])) (hi : own[i]? = some (.box b t cs)) : EvB own E p (AV.clo f [AV.eptr cs]) := fun G w0 R0 R a w hc he => by
  obtain ⟨vs, h1, h2⟩ := h R a he
  refine ⟨vs, h1, ?_⟩
  match vs, h2.1 with
  | [v], _ =>
    have : v = _ := h2.2 0 v _ rfl rfl
    rw [this]
    exact DenV.cons (ptr_eptr hc i hi) (DenV.nil _)
theorem evb_clo2 {p : Operand} {f : FuncId} {b b' : Nat} {t t' : TypeId} {cs cs' : List AV} (i j : Nat) (h : Ev E p (AV.clo f [AV.ptr b 0, AV.ptr b' 0])) (hi : own[i]? = some (.box b t cs)) (hj : own[j]? = some (.box b' t' cs')) : EvB own E p (AV.clo f [AV.eptr cs, AV.eptr cs']) := fun G w0 R0 R a w hc he => by
  obtain ⟨vs, h1, h2⟩ := h R a he
  refine ⟨vs, h1, ?_⟩
  match vs, h2.1 with
  | [v, u], _ =>
    have e1 : v = _ := h2.2 0 v _ rfl rfl
    have e2 : u = _ := h2.2 1 u _ rfl rfl
    rw [e1, e2]
    exact DenV.cons (ptr_eptr hc i hi) (DenV.cons (ptr_eptr hc j hj) (DenV.nil _))
def EvLB (own : List Own) (E : EnvF) : List Operand → List AV → Prop
  | [], [] => True
  | p :: ps, x :: xs => EvB own E p x ∧ EvLB own E ps xs
  | _, _ => False
theorem evlb_nil : EvLB own E [] [] := trivial
theorem evlb_cons {p : Operand} {ps : List Operand} {x : AV} {xs : List AV} (h : EvB own E p x) (k : EvLB own E ps xs) : EvLB own E (p :: ps) (x :: xs) := ⟨h, k⟩
theorem evlb_use {w0 : World} {R0 R : RHeap} {a : Act} {w : World} (hc : Core G w0 R0 own R w) (he : ∀ t ∈ tmpsOf o, ∀ y, E t = some y → y.den R (a.tmps.getD t undef)) : ∀ {ps : List Operand} {xs : List AV}, EvLB own E ps xs → (∀ p ∈ ps, p ∈ o.op.operands.toList) → DenV (lend own w R) (ps.map a.eval) xs
  | [], [], _, _ => DenV.nil _
  | p :: ps, x :: xs, ⟨h, k⟩, hm => DenV.cons (h G w0 R0 R a w hc fun t ht y hy => he t (by
      subst ht
      exact List.mem_filterMap.2 ⟨.tmp t, hm _ (by simp), rfl⟩) y hy) (evlb_use hc he k fun q hq => hm q (by simp [hq]))
  | [], _ :: _, h, _ => h.elim
  | _ :: _, [], h, _ => h.elim
theorem w_callB {f : FuncId} {args : Array Operand} {tys : Array TypeId} {ps : List Operand} {xs : List AV} {y : AV} (ho : o.op = .call { callee := .value (.func f), args := args, argTypes := tys }) (hc : ∀ (vs : Array Value) (w : World), (callFunc f vs).run P w = .ok (.enter f vs) w)
    (hps : args.toList = ps) (hs : FSpec P f xs y) (hy : Flat y) (he : EvLB own E ps xs) : OpW P G n own o E y := fun w0 R0 R a w hcore _ hen => by
  have hd := evlb_use hcore hen he fun p hp => by simp [ho, Op.operands, Call.operands]; right; rw [← hps] at hp; exact Array.mem_toList_iff.1 hp
  have hrun : (execOp a.eval o).run P w = .ok (.enter f (ps.map a.eval).toArray) w := by
    have hargs : args.map a.eval = (ps.map a.eval).toArray := by rw [← hps]; cases args; simp
    simp only [execOp, ho, resolve, hargs, show a.eval (.func f) = .func (.func f) #[] #[] from rfl]
    simp [Deferred.ofValue, invoke, hc]
  unfold Oper.wp
  rw [hrun, Oper.upon_enter]
  refine (hs (lend own w R) w _ (lend_le hcore) hd).mono fun e w' ⟨v, R', e1, e2, e3, e4, e5⟩ => ?_
  subst e1
  have hR2 : ∀ b, b < w.heap.size → (fun b => bif ownB own b then none else R' b) b = R b := fun b hb => by
    cases hob : ownB own b with
    | true =>
      obtain ⟨x, hx, hxb⟩ := ownB_true hob
      show (bif ownB own b then none else R' b) = R b
      rw [hob, cond_true]; exact (Own.ok_blk (hcore.owned x hx) hxb).1.symm
    | false =>
      show (bif ownB own b then none else R' b) = R b
      rw [hob, cond_false, e4 b hb]
      unfold lend
      rw [hob, cond_false]
  refine ⟨v, (fun b => bif ownB own b then none else R' b), rfl, hcore.step e5 (fun b x hx => ?_) hR2, rsub_of hcore.rle hR2, hy _ _ _ e2⟩
  cases hob : ownB own b with
  | true => simp [hob] at hx
  | false => exact e3 b x (by simpa [hob] using hx)
/-! ### Structs held against each other -/
def EqF (P : Program) (fs : List Field) (xs ys : List AV) (b : Bool) : Prop :=
  ∀ (R : RHeap) (w : World) (us vs : List Value) (d : Nat), DenC R us xs → DenC R vs ys → (Op.eqFields (d + 1) us.toArray vs.toArray fs).run P w = .ok b w
theorem eqf_nil {xs ys : List AV} : EqF P [] xs ys true := fun R w us vs d _ _ => by simp [Op.eqFields]
theorem run_part {R : RHeap} {w : World} {us : List Value} {xs : List AV} {x : AV} {t : TypeId} {off : Nat} (ha : ∀ w, (isAgg t).run P w = .ok false w) (hd : DenC R us xs) (hx : xs[off]? = some x) : ∃ v, (part t us.toArray off).run P w = .ok v w ∧ x.den R v := by
  have hlt : off < us.length := by rw [hd.1]; exact (List.getElem?_eq_some_iff.1 hx).1
  have hv : us[off]? = some us[off] := List.getElem?_eq_getElem hlt
  refine ⟨us[off], ?_, (hd.2 _ _ x hv hx).1⟩
  simp only [part, ha, Sem.run_bind, Sem.run_pure, Result.andThen_ok, Bool.false_eq_true, if_false, List.getElem?_toArray, hv]
theorem eqf_cons {f : Field} {fs : List Field} {xs ys : List AV} {x y : AV} {b r : Bool} (hn : decide (f.name = "_") = false) (ha : ∀ w, (isAgg f.type).run P w = .ok false w) (hx : xs[f.offset]? = some x) (hy : ys[f.offset]? = some y)
    (h : ∀ (R : RHeap) (w : World) (u v : Value) (d : Nat), x.den R u → y.den R v → (Op.equalIn (d + 1) f.type u v).run P w = .ok b w) (k : EqF P fs xs ys r) : EqF P (f :: fs) xs ys (b && r) := fun R w us vs d hu hv => by
  obtain ⟨u, h1, h2⟩ := run_part (P := P) (w := w) ha hu hx
  obtain ⟨v, h3, h4⟩ := run_part (P := P) (w := w) ha hv hy
  have hne : f.name ≠ "_" := of_decide_eq_false hn
  simp only [Op.eqFields, if_pos hne, Sem.run_bind, h1, h3, Result.andThen_ok, h R w u v d h2 h4, Sem.run_ite]
  cases b
  · simp
  · simpa using k R w us vs d hu hv
theorem eqf_int {t : TypeId} {k k' : IntKind} {m m' : Int} (ht : P.underlying t = some (.int k')) (R : RHeap) (w : World) (u v : Value) (d : Nat) (hu : (AV.ik k m).den R u) (hv : (AV.ik k m').den R v) : (Op.equalIn (d + 1) t u v).run P w = .ok (m == m') w := by
  cases (show u = _ from hu); cases (show v = _ from hv)
  exact run_equalIn_int w d t k k' m m' ht
theorem eqf_bool {t : TypeId} {m m' : Bool} (ht : P.underlying t = some .bool) (R : RHeap) (w : World) (u v : Value) (d : Nat) (hu : (AV.bool m).den R u) (hv : (AV.bool m').den R v) : (Op.equalIn (d + 1) t u v).run P w = .ok (m == m') w := by
  cases (show u = _ from hu); cases (show v = _ from hv)
  exact run_equalIn_bool' w d t m m' ht
theorem eqf_str {t : TypeId} {m m' : List UInt8} (ht : P.underlying t = some .string) (R : RHeap) (w : World) (u v : Value) (d : Nat) (hu : (AV.str m).den R u) (hv : (AV.str m').den R v) : (Op.equalIn (d + 1) t u v).run P w = .ok (m == m') w := by
  cases (show u = _ from hu); cases (show v = _ from hv)
  rw [run_equalIn_string w d t _ _ ht, ByteArray.toList_mk, ByteArray.toList_mk]
theorem w_aeql {t ty : TypeId} {p q : Operand} {fs : Array Field} {xs ys : List AV} {b : Bool} (ho : o.op = .binOp .eql t p q ty) (ht : P.underlying t = some (.struct fs)) (hst : P.stoodInHeld t = false) (hm : P.eqGuardType P.depth t = false) (hp : Ev E p (AV.agg xs)) (hq : Ev E q (AV.agg ys)) (h : EqF P fs.toList xs ys b) : OpW P G n own o E (AV.bool b) := opW_val fun R a w _ he => by
  obtain ⟨us, e1, d1⟩ := ev_use hp (by simp [ho, Op.operands]) he
  obtain ⟨vs, e2, d2⟩ := ev_use hq (by simp [ho, Op.operands]) he
  have hf : P.fieldsOf t = fs := by simp [Program.fieldsOf, ht]
  refine ⟨.bool b, ?_, rfl⟩
  simp only [execOp, ho, e1, e2, run_eqGuard_agg (w := w) _ t _ _ _ _ hm, run_eql_struct, run_equalIn_struct w 9999 t _ _ (by rw [hf]; exact ht) hst, hf, h R w us vs 9998 d1 d2, Sem.run_bind, Sem.run_pure, Result.andThen_ok]
theorem w_aneq {t ty : TypeId} {p q : Operand} {fs : Array Field} {xs ys : List AV} {b : Bool} (ho : o.op = .binOp .neq t p q ty) (ht : P.underlying t = some (.struct fs)) (hst : P.stoodInHeld t = false) (hm : P.eqGuardType P.depth t = false) (hp : Ev E p (AV.agg xs)) (hq : Ev E q (AV.agg ys)) (h : EqF P fs.toList xs ys b) : OpW P G n own o E (AV.bool (!b)) := opW_val fun R a w _ he => by
  obtain ⟨us, e1, d1⟩ := ev_use hp (by simp [ho, Op.operands]) he
  obtain ⟨vs, e2, d2⟩ := ev_use hq (by simp [ho, Op.operands]) he
  have hf : P.fieldsOf t = fs := by simp [Program.fieldsOf, ht]
  refine ⟨.bool (!b), ?_, rfl⟩
  simp only [execOp, ho, e1, e2, run_eqGuard_agg (w := w) _ t _ _ _ _ hm, run_neq_struct, run_equalIn_struct w 9999 t _ _ (by rw [hf]; exact ht) hst, hf, h R w us vs 9998 d1 d2, Sem.run_bind, Sem.run_pure, Result.andThen_ok]
end
end Go.AV
