/- What a call owns: boxes (variables in memory), arrays that it makes; functions' contracts out of their bodies. -/
import Derived.Test.YteliahajeokciaaAvMem
set_option linter.unusedVariables false
set_option linter.unusedSimpArgs false
namespace Go.AV
open Go.RowKit (Below)

section
variable {P : Program} {G : Nat → Prop} {n : Nat} {own : List Own}

/-! ### A function's contract out of its body -/
def enumA : Nat → List AV → List (Nat × AV)
  | _, [] => []
  | k, x :: xs => (k, x) :: enumA (k + 1) xs
theorem getv_enumA : ∀ (xs : List AV) (k t : Nat) (x : AV), getv t (enumA k xs) = some x → k ≤ t ∧ xs[t - k]? = some x
  | [], _, _, _, h => by simp [enumA, getv] at h
  | y :: xs, k, t, x, h => by
    simp only [enumA, getv] at h
    by_cases hkt : k = t
    · subst hkt
      simp [Nat.beq_refl] at h
      exact ⟨Nat.le_refl _, by simp [h]⟩
    · rw [nat_beq_ne hkt, cond_false] at h
      obtain ⟨h1, h2⟩ := getv_enumA xs (k + 1) t x h
      refine ⟨by omega, ?_⟩
      rw [show t - k = (t - (k + 1)) + 1 by omega]
      simpa using h2
/-- What the results come to. -/
def RetOk (P : Program) (G : Nat → Prop) (n : Nat) (fn : Func) (s : AState) (y : AV) : Prop :=
  ∀ w0 R0 R a w, St G n w0 R0 s R a w → ∃ v R', (results fn a.tmps).run P w = .ok v w ∧ y.den R' v ∧ RSub R R' ∧ Core G w0 R0 [] R' w
def RetPost (P : Program) (G : Nat → Prop) (n : Nat) (fn : Func) (y : AV) : Exit → AState → Prop
  | .normal, s => RetOk P G n fn s y
  | .ret, s => RetOk P G n fn s y
  | _, _ => False
theorem core_start {R : RHeap} {w : World} (h : RLe R w) : Core G w R [] R w :=
  ⟨rfl, rfl, rfl, Nat.le_refl _, fun _ _ _ => rfl, h, fun _ _ => rfl, fun o ho => by simp at ho, fun o ho => by simp at ho, by simp⟩
theorem spec_of_awp {f : FuncId} {fn : Func} {c : Code} {xs : List AV} {y : AV} (hf : P.funcs[f]? = some fn) (hb : fn.body = some c) (hn : fn.ntmps = n) (hx' : Nat.ble xs.length n = true)
    (h : AWP P (fun _ => False) n c (RetPost P (fun _ => False) n fn y) ⟨[], enumA 0 xs⟩) : FSpec P f xs y := fun R w vs hr hd => by
  have hlen : vs.length = xs.length := hd.1
  have hx : xs.length ≤ n := Nat.le_of_ble_eq_true hx'
  refine calls_of_wp hf hb ?_
  refine wp_mono (h w R R { tmps := vs.toArray ++ Array.replicate (fn.ntmps - vs.toArray.size) undef, defers := [] } w ⟨core_start hr, fun t x hx => ?_, ?_, rfl⟩) fun e a' w' ⟨s', R', q, r1, r2⟩ => ?_
  · obtain ⟨_, h2⟩ := getv_enumA xs 0 t x hx
    have hlt : t < xs.length := (List.getElem?_eq_some_iff.1 h2).1
    have hv : vs[t]? = some vs[t] := List.getElem?_eq_getElem (by omega)
    have hg : (vs.toArray ++ Array.replicate (fn.ntmps - vs.toArray.size) undef).getD t undef = vs[t] := by
      rw [Array.getD_eq_getD_getElem?, Array.getElem?_append_left (by simp; omega)]
      simp [hv]
    rw [hg]
    exact hd.2 t _ x hv h2
  · simp; omega
  · have fin : ∀ s', RetOk P (fun _ => False) n fn s' y → St (fun _ => False) n w R s' R' a' w' → a'.defers = [] ∧ ∃ v, (results fn a'.tmps).run P w' = .ok v w' ∧ ∃ v_1 R', Ending.returned v = .returned v_1 ∧ y.den R' v_1 ∧ RLe R' w' ∧ (∀ b, b < w.heap.size → R' b = R b) ∧ Below w.heap.size w w' := fun s' hq hs => by
      obtain ⟨v, R2, h1, h2, h3, h4⟩ := hq w R R' a' w' hs
      exact ⟨hs.2.2.2, v, h1, v, R2, rfl, h2, h4.rle, h4.rold, ⟨h4.os, h4.tape, h4.output, h4.size, fun k hk => h4.block k hk (fun h => h)⟩⟩
    cases e with
    | normal => exact fin s' q r2
    | ret => exact fin s' q r2
    | _ => exact q.elim
theorem core_drop {w0 : World} {R0 R : RHeap} {w : World} (h : Core G w0 R0 own R w) : Core G w0 R0 [] R w :=
  ⟨h.os, h.tape, h.output, h.size, h.block, h.rle, h.rold, fun o ho => by simp at ho, fun o ho => by simp at ho, by simp⟩
theorem ret1 {fn : Func} {t : Nat} {env : List (Nat × AV)} {y : AV} (hr : fn.results = #[.tmp t]) (hy : getv t env = some y) : RetOk P G n fn ⟨own, env⟩ y := fun w0 R0 R a w ⟨h1, h2, h3, h4⟩ =>
  ⟨_, R, results_tmp hr a.tmps P w, h2 t y hy, RSub.refl _, core_drop h1⟩
theorem denC_slice {R : RHeap} {vs : List Value} {xs : List AV} (h : DenC R vs xs) (off m : Nat) : DenC R ((vs.drop off).take m) ((xs.drop off).take m) :=
  ⟨by simp [h.1], fun i v x hv hx => by
    by_cases him : i < m
    · rw [List.getElem?_take_of_lt him, List.getElem?_drop] at hv hx
      exact h.2 _ v x hv hx
    · rw [List.getElem?_eq_none (by simp; omega)] at hv; cases hv⟩
theorem box_cell {R : RHeap} {w : World} {b : Nat} {t : TypeId} {cs : List AV} {vs : List Value} (hb : w.heap[b]? = some (.cells vs.toArray t (0, 0))) (off j : Nat) : w.cell? ((⟨b, off, none⟩ : Addr).add j) = vs[off + j]? := by
  have : ((⟨b, off, none⟩ : Addr).add j) = ⟨b, off + j, none⟩ := by unfold Addr.add; split <;> simp_all
  rw [this]
  simp [World.cell?, hb]
/-- A variable in a box is read. -/
theorem run_box {R : RHeap} {w : World} {b off : Nat} {t t' : TypeId} {cs ys : List AV} (h : Own.ok R w (.box b t' cs)) (ha : ∀ w, (isAgg t).run P w = .ok true w) (hs : ∀ w, (sizeOf t).run P w = .ok ys.length w)
    (hy : (cs.drop off).take ys.length = ys) : ∃ v, (loadVar t ⟨b, off, none⟩).run P w = .ok v w ∧ (AV.agg ys).den R v := by
  obtain ⟨_, vs, hb, hd⟩ := h
  have hlen : ((vs.drop off).take ys.length).length = ys.length := by
    have := congrArg List.length hy
    simp only [List.length_take, List.length_drop, hd.1] at this ⊢
    exact this
  have h3 := run_loadCells_list (P := P) w ⟨b, off, none⟩ ((vs.drop off).take ys.length) (fun j v hv => by
    rw [box_cell (R := R) (cs := cs) hb]
    have hj : j < ys.length := by rw [← hlen]; exact (List.getElem?_eq_some_iff.1 hv).1
    rw [List.getElem?_take_of_lt hj, List.getElem?_drop] at hv
    exact hv)
  rw [hlen] at h3
  refine ⟨.agg ((vs.drop off).take ys.length).toArray, ?_, _, rfl, ?_⟩
  · simp only [loadVar, Sem.run_bind, ha, Result.andThen_ok, if_true, hs, h3, Sem.run_pure]
  · have := denC_slice hd off ys.length
    rwa [hy] at this
theorem run_box1 {R : RHeap} {w : World} {b off : Nat} {t t' : TypeId} {cs : List AV} {y : AV} (h : Own.ok R w (.box b t' cs)) (ha : ∀ w, (isAgg t).run P w = .ok false w)
    (hy : cs[off]? = some y) : ∃ v, (loadVar t ⟨b, off, none⟩).run P w = .ok v w ∧ y.den R v := by
  obtain ⟨_, vs, hb, hd⟩ := h
  have hlt : off < vs.length := by rw [hd.1]; exact (List.getElem?_eq_some_iff.1 hy).1
  have hv : vs[off]? = some vs[off] := List.getElem?_eq_getElem hlt
  have hc : w.cell? ⟨b, off, none⟩ = some vs[off] := by simp [World.cell?, hb, hv]
  refine ⟨vs[off], ?_, (hd.2 off _ y hv hy).1⟩
  simp only [loadVar, Sem.run_bind, ha, Result.andThen_ok, Bool.false_eq_true, if_false, run_load, hc]
def rvSem (tmps : Array Value) : ResultVar → Sem Value
  | .tmp t => pure (tmps.getD t undef)
  | .cell a t => do loadVar t (← asAddr (tmps.getD a undef))
theorem results_eq (fn : Func) (tmps : Array Value) : results fn tmps = (do
    let vs ← fn.results.mapM (rvSem tmps)
    pure (if h : vs.size = 1 then vs[0] else .tuple vs)) := by
  unfold results
  congr 1
def RvDen (P : Program) (G : Nat → Prop) (n : Nat) (s : AState) (rv : ResultVar) (x : AV) : Prop :=
  ∀ w0 R0 R a w, St G n w0 R0 s R a w → ∃ v, (rvSem a.tmps rv).run P w = .ok v w ∧ x.den R v
def AllRv (P : Program) (G : Nat → Prop) (n : Nat) (s : AState) : List ResultVar → List AV → Prop
  | [], [] => True
  | r :: rs, x :: xs => RvDen P G n s r x ∧ AllRv P G n s rs xs
  | _, _ => False
theorem rv_nil {s : AState} : AllRv P G n s [] [] := trivial
theorem rv_cons {s : AState} {r : ResultVar} {rs : List ResultVar} {x : AV} {xs : List AV} (h : RvDen P G n s r x) (k : AllRv P G n s rs xs) : AllRv P G n s (r :: rs) (x :: xs) := ⟨h, k⟩
theorem rv_tmp {env : List (Nat × AV)} {t : Nat} {x : AV} (h : getv t env = some x) : RvDen P G n ⟨own, env⟩ (.tmp t) x := fun w0 R0 R a w hs =>
  ⟨_, rfl, hs.2.1 t x h⟩
theorem rv_tmp' {env : List (Nat × AV)} {t : Nat} {x y : AV} (h : getv t env = some x) (e : x = y) : RvDen P G n ⟨own, env⟩ (.tmp t) y := by subst e; exact rv_tmp h
theorem rv_cell {env : List (Nat × AV)} {a b : Nat} {t t' : TypeId} {cs ys : List AV} (i : Nat) (h : getv a env = some (AV.ptr b 0)) (hi : own[i]? = some (.box b t' cs)) (ha : ∀ w, (isAgg t).run P w = .ok true w) (hs : ∀ w, (sizeOf t).run P w = .ok ys.length w)
    (hy : cs.take ys.length = ys) : RvDen P G n ⟨own, env⟩ (.cell a t) (AV.agg ys) := fun w0 R0 R act w hs' => by
  have h1 : act.tmps.getD a undef = .pointer (some ⟨b, 0, none⟩) := hs'.2.1 a _ h
  obtain ⟨v, h2, h3⟩ := run_box (P := P) (off := 0) (hs'.1.owned _ (List.mem_of_getElem? hi)) ha hs (by simpa using hy)
  exact ⟨v, by simp only [rvSem, h1, asAddr, Sem.run_bind, Sem.run_pure, Result.andThen_ok, h2], h3⟩
theorem rv_cell1 {env : List (Nat × AV)} {a b : Nat} {t t' : TypeId} {cs : List AV} {y : AV} (i : Nat) (h : getv a env = some (AV.ptr b 0)) (hi : own[i]? = some (.box b t' cs)) (ha : ∀ w, (isAgg t).run P w = .ok false w)
    (hy : cs[0]? = some y) : RvDen P G n ⟨own, env⟩ (.cell a t) y := fun w0 R0 R act w hs' => by
  have h1 : act.tmps.getD a undef = .pointer (some ⟨b, 0, none⟩) := hs'.2.1 a _ h
  obtain ⟨v, h2, h3⟩ := run_box1 (P := P) (off := 0) (hs'.1.owned _ (List.mem_of_getElem? hi)) ha hy
  exact ⟨v, by simp only [rvSem, h1, asAddr, Sem.run_bind, Sem.run_pure, Result.andThen_ok, h2], h3⟩
theorem allRv_run {s : AState} {w0 : World} {R0 R : RHeap} {a : Act} {w : World} (hs : St G n w0 R0 s R a w) : ∀ {rs : List ResultVar} {xs : List AV}, AllRv P G n s rs xs →
    ∃ vs : List Value, (rs.mapM (rvSem a.tmps)).run P w = .ok vs w ∧ DenV R vs xs
  | [], [], _ => ⟨[], rfl, DenV.nil R⟩
  | r :: rs, x :: xs, ⟨h, k⟩ => by
    obtain ⟨v, h1, h2⟩ := h w0 R0 R a w hs
    obtain ⟨vs, h3, h4⟩ := allRv_run hs k
    refine ⟨v :: vs, ?_, DenV.cons h2 h4⟩
    simp only [List.mapM_cons, Sem.run_bind, h1, h3, Result.andThen_ok, Sem.run_pure]
  | [], _ :: _, h => h.elim
  | _ :: _, [], h => h.elim
theorem run_results {fn : Func} {rs : List ResultVar} {tmps : Array Value} {w : World} {vs : List Value} (hr : fn.results = rs.toArray) (h : (rs.mapM (rvSem tmps)).run P w = .ok vs w) :
    (results fn tmps).run P w = .ok (if h : vs.toArray.size = 1 then vs.toArray[0] else .tuple vs.toArray) w := by
  rw [results_eq, hr, List.mapM_toArray]
  simp only [Sem.run_bind, Sem.run_map, h, Result.andThen_ok, Sem.run_pure]
theorem retN {fn : Func} {rs : List ResultVar} {s : AState} {ys : List AV} (hr : fn.results = rs.toArray) (hl : rs.length ≠ 1) (hy : AllRv P G n s rs ys) : RetOk P G n fn s (AV.tup ys) := fun w0 R0 R a w hs => by
  obtain ⟨vs, h1, h2⟩ := allRv_run hs hy
  have hlen : vs.length = rs.length := by
    have : ∀ (rs : List ResultVar) (ys : List AV), AllRv P G n s rs ys → rs.length = ys.length := by
      intro rs
      induction rs with
      | nil => intro ys h; cases ys with | nil => rfl | cons y ys => exact h.elim
      | cons r rs ih => intro ys h; cases ys with | nil => exact h.elim | cons y ys => simp [ih ys h.2]
    rw [h2.1, this rs ys hy]
  refine ⟨_, R, run_results hr h1, ?_, RSub.refl _, core_drop hs.1⟩
  rw [dif_neg (by simp [hlen]; exact hl)]
  exact ⟨vs, rfl, h2⟩
theorem retR {fn : Func} {r : ResultVar} {s : AState} {y : AV} (hr : fn.results = #[r]) (hy : RvDen P G n s r y) : RetOk P G n fn s y := fun w0 R0 R a w hs => by
  obtain ⟨v, h1, h2⟩ := hy w0 R0 R a w hs
  refine ⟨v, R, ?_, h2, RSub.refl _, core_drop hs.1⟩
  have := run_results (P := P) (rs := [r]) (vs := [v]) (w := w) (tmps := a.tmps) hr (by simp only [List.mapM_cons, List.mapM_nil, Sem.run_bind, h1, Result.andThen_ok, Sem.run_pure])
  simpa using this

/-! ### Boxes -/
theorem core_box {w0 : World} {R0 R : RHeap} {w : World} {t : TypeId} {vs : List Value} {xs : List AV} (h : Core G w0 R0 own R w) (hd : DenC R vs xs) :
    Core G w0 R0 (.box w.heap.size t xs :: own) R (w.alloc (.cells vs.toArray t)) where
  os := h.os
  tape := h.tape
  output := h.output
  size := by simp; exact Nat.le_succ_of_le h.size
  block k hk1 hk2 := (Below.heap_alloc w _ k (Nat.lt_of_lt_of_le hk1 h.size)).trans (h.block k hk1 hk2)
  rle b o e := by
    have := h.rle b o e
    exact (Below.heap_alloc w _ b (Array.getElem?_eq_some_iff.1 this).1).trans this
  rold := h.rold
  owned o ho := by
    rcases List.mem_cons.1 ho with rfl | ho
    · refine ⟨?_, vs, heap_alloc_new w _, hd⟩
      cases hr : R w.heap.size with
      | none => rfl
      | some o => have := (Array.getElem?_eq_some_iff.1 (h.rle _ _ hr)).1; omega
    · exact Own.ok_keep (h.owned o ho) (RSub.refl _) fun b hb => by
        obtain ⟨k1, k2⟩ := Own.ok_blk (h.owned o ho) hb
        exact ⟨Below.heap_alloc w _ b k2, k1⟩
  fresh o ho b hb := by
    rcases List.mem_cons.1 ho with rfl | ho
    · simp [Own.blk] at hb; subst hb; exact .inl h.size
    · exact h.fresh o ho b hb
  sep := by
    simp only [List.filterMap_cons, Own.blk]
    refine List.nodup_cons.2 ⟨fun hm => ?_, h.sep⟩
    obtain ⟨o, ho, hb⟩ := List.mem_filterMap.1 hm
    have := (Own.ok_blk (h.owned o ho) hb).2
    omega
theorem env_put {env : List (Nat × AV)} {R R' : RHeap} {a : Act} {d : Nat} {x : AV} {v : Value} (h : EnvOk (getv · env) R a) (hr : RSub R R') (hd : d < a.tmps.size) (hx : x.den R' v) : EnvOk (getv · ((d, x) :: env)) R' (a.put (some d) v) := by
  have := envOk_put (d := some d) h hr (fun k e => by injection e with e; subst e; exact hd) hx
  rw [← getv_putv] at this
  exact this
theorem wanted_none {ops : Array Oper} {o : Oper} {tmps : Array Value} (hg : o.guard = none) : Region.wanted o (yielded ops tmps) = true := by simp [Region.wanted, hg]
theorem ev_st {o : Oper} {s : AState} {p : Operand} {x : AV} {R : RHeap} {a : Act} (hev : Ev (getv · s.env) p x) (h : EnvOk (getv · s.env) R a) : x.den R (a.eval p) := hev R a fun t _ y hy => h t y hy
/-- An operation with an effect, unguarded. -/
theorem opS_run {ops : Array Oper} {o : Oper} {s : AState} {K : AState → Prop} (hg : o.guard = none)
    (h : ∀ w0 R0 R a w, St G n w0 R0 s R a w → o.wp P a w (fun a' w' => ∃ s' R', K s' ∧ RSub R R' ∧ St G n w0 R0 s' R' a' w') (fun _ _ _ => False)) : OpS P G n ops o s K := fun w0 R0 R a w hs =>
  ⟨fun _ => h w0 R0 R a w hs, fun hw => by rw [wanted_none hg] at hw; cases hw⟩
theorem sq_box {ops : Array Oper} {o : Oper} {rest : List Oper} {env : List (Nat × AV)} {K : AState → Prop} {d : Nat} {t : TypeId} {p : Operand} {xs : List AV} (hg : o.guard = none) (ho : o.op = .box t p) (hd : o.dst = some d) (hn : Nat.blt d n = true)
    (hp : Ev (getv · env) p (AV.agg xs)) (k : ∀ b, ASeq P G n ops rest ⟨.box b t xs :: own, (d, AV.ptr b 0) :: env⟩ K) : ASeq P G n ops (o :: rest) ⟨own, env⟩ K :=
  opS_run hg fun w0 R0 R a w ⟨h1, h2, h3, h4⟩ => by
    obtain ⟨vs, e1, hdc⟩ := ev_st (s := ⟨own, env⟩) (o := o) hp h2
    have hrun : (execOp a.eval o).run P w = .ok (.value (.pointer (some ⟨w.heap.size, 0, none⟩))) (w.alloc (.cells vs.toArray t)) := by
      simp only [execOp, ho, e1, Instr.box, newVar, newRow, Value.cells, Sem.run_bind, Sem.run_pure, Result.andThen_ok, run_newObj, World.alloc_eq]
    unfold Oper.wp
    rw [hrun, Oper.upon_value, hd]
    exact ⟨_, R, k w.heap.size, RSub.refl _, core_box h1 hdc, env_put h2 (RSub.refl _) (by rw [h3]; exact Nat.blt_eq.mp hn) rfl, by rw [size_put]; exact h3, by rw [defers_put]; exact h4⟩
theorem sq_box1 {ops : Array Oper} {o : Oper} {rest : List Oper} {env : List (Nat × AV)} {K : AState → Prop} {d : Nat} {t : TypeId} {p : Operand} {x : AV} (hg : o.guard = none) (ho : o.op = .box t p) (hd : o.dst = some d) (hn : Nat.blt d n = true)
    (hp : Ev (getv · env) p x) (h1' : ∀ R v, x.den R v → v.oneCell' = true) (k : ∀ b, ASeq P G n ops rest ⟨.box b t [x] :: own, (d, AV.ptr b 0) :: env⟩ K) : ASeq P G n ops (o :: rest) ⟨own, env⟩ K :=
  opS_run hg fun w0 R0 R a w ⟨h1, h2, h3, h4⟩ => by
    have e1 := ev_st (s := ⟨own, env⟩) (o := o) hp h2
    have hone := h1' R _ e1
    have hcs : (a.eval p).cells = #[a.eval p] := by
      generalize a.eval p = v at hone
      cases v <;> first | rfl | simp [Value.oneCell'] at hone
    have hrun : (execOp a.eval o).run P w = .ok (.value (.pointer (some ⟨w.heap.size, 0, none⟩))) (w.alloc (.cells [a.eval p].toArray t)) := by
      simp only [execOp, ho, Instr.box, newVar, newRow, hcs, Sem.run_bind, Sem.run_pure, Result.andThen_ok, run_newObj, World.alloc_eq]
    unfold Oper.wp
    rw [hrun, Oper.upon_value, hd]
    exact ⟨_, R, k w.heap.size, RSub.refl _, core_box h1 ⟨rfl, fun i v y hv hy => by
      cases i with
      | zero => simp at hv hy; subst hv; subst hy; exact ⟨e1, hone⟩
      | succ i => simp at hv⟩, env_put h2 (RSub.refl _) (by rw [h3]; exact Nat.blt_eq.mp hn) rfl, by rw [size_put]; exact h3, by rw [defers_put]; exact h4⟩
theorem one_ik (k : IntKind) (m : Int) (R : RHeap) (v : Value) (h : (AV.ik k m).den R v) : v.oneCell' = true := by cases (show v = _ from h); rfl
theorem one_bool (b : Bool) (R : RHeap) (v : Value) (h : (AV.bool b).den R v) : v.oneCell' = true := by cases (show v = _ from h); rfl
theorem one_str (s : List UInt8) (R : RHeap) (v : Value) (h : (AV.str s).den R v) : v.oneCell' = true := by cases (show v = _ from h); rfl
theorem one_list (sz : Nat) (es : List (List AV)) (R : RHeap) (v : Value) (h : (AV.list sz es).den R v) : v.oneCell' = true := by obtain ⟨oa, c, rfl, _⟩ := h; rfl
/-- The zero of a type, as cells. -/
def zeroA : Value → AV
  | .int k m => AV.ik k m
  | .bool b => AV.bool b
  | .string s => AV.str s.data.toList
  | v => AV.is v
theorem zeroA_den (R : RHeap) (v : Value) : (zeroA v).den R v := by
  cases v <;> first | rfl | (show _ = _; simp)
theorem sq_alloc {ops : Array Oper} {o : Oper} {rest : List Oper} {env : List (Nat × AV)} {K : AState → Prop} {d : Nat} {t : TypeId} {z : Value} (hg : o.guard = none) (ho : o.op = .alloc t) (hd : o.dst = some d) (hn : Nat.blt d n = true)
    (hz : ∀ w, (zeroValue t).run P w = .ok z w) (h1' : z.cells.toList.all Value.oneCell' = true) (k : ∀ b, ASeq P G n ops rest ⟨.box b t (z.cells.toList.map zeroA) :: own, (d, AV.ptr b 0) :: env⟩ K) : ASeq P G n ops (o :: rest) ⟨own, env⟩ K :=
  opS_run hg fun w0 R0 R a w ⟨h1, h2, h3, h4⟩ => by
    have hrun : (execOp a.eval o).run P w = .ok (.value (.pointer (some ⟨w.heap.size, 0, none⟩))) (w.alloc (.cells z.cells.toList.toArray t)) := by
      simp only [execOp, ho, Instr.alloc, newVar, newRow, hz, Array.toArray_toList, Sem.run_bind, Sem.run_pure, Result.andThen_ok, run_newObj, World.alloc_eq]
    unfold Oper.wp
    rw [hrun, Oper.upon_value, hd]
    exact ⟨_, R, k w.heap.size, RSub.refl _, core_box h1 ⟨by simp, fun i v y hv hy => by
      rw [List.getElem?_map, hv] at hy
      simp at hy; subst hy
      exact ⟨zeroA_den R v, List.all_eq_true.1 h1' v (List.mem_of_getElem? hv)⟩⟩, env_put h2 (RSub.refl _) (by rw [h3]; exact Nat.blt_eq.mp hn) rfl, by rw [size_put]; exact h3, by rw [defers_put]; exact h4⟩

section boxes
variable {E : EnvF} {o : Oper} {p q : Operand} {t t' : TypeId} {b off : Nat} {cs : List AV}
theorem w_fldB {fs : Array Field} {fd : Field} {k m : Nat} (ho : o.op = .fieldAddr t p k) (ht : P.underlying t = some (.struct fs)) (hk : fs[k]? = some fd) (hs : ∀ w, (sizeOf fd.type).run P w = .ok (m + 1) w)
    (hp : Ev E p (AV.ptr b off)) : OpW P G n own o E (AV.ptr b (off + fd.offset)) := opW_val fun R a w hr he => by
  have h1 : a.eval p = .pointer (some ⟨b, off, none⟩) := ev_use hp (by simp [ho, Op.operands]) he
  have h2 : (⟨b, off, none⟩ : Addr).add fd.offset = ⟨b, off + fd.offset, none⟩ := by unfold Addr.add; split <;> simp_all
  refine ⟨.pointer (some ⟨b, off + fd.offset, none⟩), ?_, rfl⟩
  simp only [execOp, ho, h1, Instr.fieldAt, run_underlying ht, hk, Instr.sureAddr, fieldPlace, hs, Sem.run_bind, Sem.run_pure, Result.andThen_ok, Sem.run_ite, Nat.add_eq_zero_iff, Nat.one_ne_zero, and_false, if_false, h2]
theorem w_loadB {ys : List AV} (i : Nat) (ho : o.op = .load t p) (ha : ∀ w, (isAgg t).run P w = .ok true w) (hs : ∀ w, (sizeOf t).run P w = .ok ys.length w) (hp : Ev E p (AV.ptr b off)) (hi : own[i]? = some (.box b t' cs))
    (hy : (cs.drop off).take ys.length = ys) : OpW P G n own o E (AV.agg ys) := opW_core fun w0 R0 R a w hc he => by
  have h1 : a.eval p = .pointer (some ⟨b, off, none⟩) := ev_use hp (by simp [ho, Op.operands]) he
  obtain ⟨v, h2, h3⟩ := run_box (P := P) (hc.owned _ (List.mem_of_getElem? hi)) ha hs hy
  exact ⟨v, by simp only [execOp, ho, h1, Instr.loadAt, Instr.sureAddr, Sem.run_bind, Sem.run_pure, Result.andThen_ok, h2], h3⟩
theorem w_loadA {m : Nat} (i : Nat) (ho : o.op = .load t p) (hp : Ev E p (AV.ptr b 0)) (hi : own[i]? = some (.box b t' cs)) (ha : ∀ w, (isAgg t).run P w = .ok true w) (hs : ∀ w, (sizeOf t).run P w = .ok m w)
    (hm : cs.length = m) : OpW P G n own o E (AV.agg cs) := w_loadB (ys := cs) i ho ha (by rw [hm]; exact hs) hp hi (by simp)
theorem w_loadAP {m off : Nat} (ys : List AV) (i : Nat) (ho : o.op = .load t p) (hp : Ev E p (AV.ptr b off)) (hi : own[i]? = some (.box b t' cs)) (ha : ∀ w, (isAgg t).run P w = .ok true w) (hs : ∀ w, (sizeOf t).run P w = .ok m w)
    (hy : (cs.drop off).take m = ys) (hm : ys.length = m) : OpW P G n own o E (AV.agg ys) := w_loadB (ys := ys) i ho ha (by rw [hm]; exact hs) hp hi (by rw [hm]; exact hy)
theorem w_loadB1 {y : AV} (i : Nat) (ho : o.op = .load t p) (hp : Ev E p (AV.ptr b off)) (hi : own[i]? = some (.box b t' cs)) (ha : ∀ w, (isAgg t).run P w = .ok false w)
    (hy : cs[off]? = some y) : OpW P G n own o E y := opW_core fun w0 R0 R a w hc he => by
  have h1 : a.eval p = .pointer (some ⟨b, off, none⟩) := ev_use hp (by simp [ho, Op.operands]) he
  obtain ⟨v, h2, h3⟩ := run_box1 (P := P) (hc.owned _ (List.mem_of_getElem? hi)) ha hy
  exact ⟨v, by simp only [execOp, ho, h1, Instr.loadAt, Instr.sureAddr, Sem.run_bind, Sem.run_pure, Result.andThen_ok, h2], h3⟩
theorem w_nilB (ho : o.op = .nilCheck p) (hp : Ev E p (AV.ptr b off)) : OpW P G n own o E (AV.ptr b off) := opW_val fun R a w hr he => by
  have h1 : a.eval p = .pointer (some ⟨b, off, none⟩) := ev_use hp (by simp [ho, Op.operands]) he
  exact ⟨_, by simp only [execOp, ho, h1, Sem.run_pure], rfl⟩
end boxes

/-! ### A store into what is owned -/
theorem sep_get {own : List Own} (h : (own.filterMap Own.blk).Nodup) {i j : Nat} {x y : Own} (hi : own[i]? = some x) (hj : own[j]? = some y) (hne : i ≠ j) {b : Nat} (hx : Own.blk x = some b) : Own.blk y ≠ some b := by
  induction own generalizing i j with
  | nil => simp at hi
  | cons o own ih =>
    intro hy
    cases i with
    | zero =>
      cases j with
      | zero => exact hne rfl
      | succ j =>
        simp at hi hj; subst hi
        rw [List.filterMap_cons, hx] at h
        exact (List.nodup_cons.1 h).1 (List.mem_filterMap.2 ⟨y, List.mem_of_getElem? hj, hy⟩)
    | succ i =>
      cases j with
      | zero =>
        simp at hi hj; subst hj
        rw [List.filterMap_cons, hy] at h
        exact (List.nodup_cons.1 h).1 (List.mem_filterMap.2 ⟨x, List.mem_of_getElem? hi, hx⟩)
      | succ j =>
        refine ih ?_ (by simpa using hi) (by simpa using hj) (by omega) hy
        rw [List.filterMap_cons] at h
        cases hb : Own.blk o with
        | none => rw [hb] at h; exact h
        | some k => rw [hb] at h; exact (List.nodup_cons.1 h).2
theorem filterMap_set {own : List Own} {i : Nat} {x y : Own} (hi : own[i]? = some x) (h : Own.blk y = Own.blk x) : (own.set i y).filterMap Own.blk = own.filterMap Own.blk := by
  induction own generalizing i with
  | nil => simp at hi
  | cons o own ih =>
    cases i with
    | zero => simp at hi; subst hi; simp [List.filterMap_cons, h]
    | succ i => simp only [List.set_cons_succ, List.filterMap_cons, ih (i := i) (by simpa using hi)]
/-- One owned thing turns, in its own block. -/
theorem core_set {w0 : World} {R0 R : RHeap} {w w' : World} {i : Nat} {x y : Own} {g : Nat} (h : Core G w0 R0 own R w) (hi : own[i]? = some x) (hx : Own.blk x = some g) (hy : Own.blk y = some g) (hok : Own.ok R w' y)
    (hg : w.grownBy w' (some g)) : Core G w0 R0 (own.set i y) R w' := by
  have hxm := List.mem_of_getElem? hi
  have hgR := (Own.ok_blk (h.owned x hxm) hx).1
  refine ⟨hg.os.trans h.os, hg.tape.trans h.tape, hg.output.trans h.output, Nat.le_trans h.size hg.size, fun k hk1 hk2 => ?_, fun b o e => ?_, h.rold, fun o ho => ?_, fun o ho b hb => ?_, ?_⟩
  · rw [hg.block k (Nat.lt_of_lt_of_le hk1 h.size) (fun e => ?_)]
    · exact h.block k hk1 hk2
    · injection e with e; subst e
      rcases h.fresh x hxm k hx with h1 | h1
      · omega
      · exact hk2 h1
  · have := h.rle b o e
    rw [hg.block b (Array.getElem?_eq_some_iff.1 this).1 (fun e' => by injection e' with e'; subst e'; rw [hgR] at e; cases e)]
    exact this
  · obtain ⟨j, hj⟩ := List.getElem?_of_mem ho
    by_cases hij : i = j
    · subst hij
      rw [List.getElem?_set_self (List.getElem?_eq_some_iff.1 hi).1] at hj
      injection hj with hj; subst hj; exact hok
    · rw [List.getElem?_set_ne hij] at hj
      have hom := List.mem_of_getElem? hj
      refine Own.ok_keep (h.owned o hom) (RSub.refl _) fun b hb => ?_
      obtain ⟨k1, k2⟩ := Own.ok_blk (h.owned o hom) hb
      exact ⟨hg.block b k2 (fun e => sep_get h.sep hi hj hij hx (by rw [hb, e])), k1⟩
  · obtain ⟨j, hj⟩ := List.getElem?_of_mem ho
    by_cases hij : i = j
    · subst hij
      rw [List.getElem?_set_self (List.getElem?_eq_some_iff.1 hi).1] at hj
      injection hj with hj; subst hj
      rw [hy] at hb; injection hb with hb; subst hb
      exact h.fresh x hxm _ hx
    · rw [List.getElem?_set_ne hij] at hj
      exact h.fresh o (List.mem_of_getElem? hj) b hb
  · rw [filterMap_set hi (by rw [hx, hy])]; exact h.sep
def splice (cs : List AV) (off : Nat) (ys : List AV) : List AV := cs.take off ++ ys ++ cs.drop (off + ys.length)
theorem setRow_grown (w : World) (g : Nat) (l : Array Value) : w.grownBy (w.setRow g l) (some g) :=
  ⟨rfl, rfl, rfl, by simp, fun k _ hk => setRow_other w g k _ (fun e => hk (by rw [e]))⟩
theorem denC_splice {R : RHeap} {vs us : List Value} {cs ys : List AV} {off : Nat} (h : DenC R vs cs) (k : DenC R us ys) (hl : off + ys.length ≤ cs.length) : DenC R (vs.take off ++ us ++ vs.drop (off + us.length)) (splice cs off ys) := by
  have h1 := h.1
  have k1 := k.1
  refine ⟨by simp [splice]; omega, fun i v x hv hx => ?_⟩
  unfold splice at hx
  by_cases ha : i < off
  · rw [List.append_assoc, List.getElem?_append_left (by simp; omega), List.getElem?_take_of_lt ha] at hv hx
    exact h.2 i v x hv hx
  · rw [List.append_assoc, List.getElem?_append_right (by simp; omega)] at hv hx
    have e1 : (vs.take off).length = off := by simp; omega
    have e2 : (cs.take off).length = off := by simp; omega
    rw [e1] at hv
    rw [e2] at hx
    by_cases hb : i - off < us.length
    · rw [List.getElem?_append_left hb] at hv
      rw [List.getElem?_append_left (by omega)] at hx
      exact k.2 _ v x hv hx
    · rw [List.getElem?_append_right (by omega), List.getElem?_drop] at hv
      rw [List.getElem?_append_right (by omega), List.getElem?_drop] at hx
      rw [show off + us.length + (i - off - us.length) = i by omega] at hv
      rw [show off + ys.length + (i - off - ys.length) = i by omega] at hx
      exact h.2 i v x hv hx
/-- What a value is as cells. -/
def AsCells (x : AV) (ys : List AV) : Prop := ∀ R v, x.den R v → DenC R v.cells.toList ys
theorem as_agg (ys : List AV) : AsCells (AV.agg ys) ys := fun R v ⟨vs, e, h⟩ => by subst e; simpa [Value.cells] using h
theorem cells_one {v : Value} (h : v.oneCell' = true) : v.cells = #[v] := by cases v <;> first | rfl | simp [Value.oneCell'] at h
theorem as_one {x : AV} (h : ∀ R v, x.den R v → v.oneCell' = true) : AsCells x [x] := fun R v hv => by
  rw [cells_one (h R v hv)]
  exact ⟨rfl, fun i u y hu hy => by
    cases i with
    | zero => simp at hu hy; subst hu; subst hy; exact ⟨hv, h R _ hv⟩
    | succ i => simp at hu⟩
theorem as_ik (k : IntKind) (m : Int) : AsCells (AV.ik k m) [AV.ik k m] := as_one (one_ik k m)
theorem as_bool (b : Bool) : AsCells (AV.bool b) [AV.bool b] := as_one (one_bool b)
theorem as_str (s : List UInt8) : AsCells (AV.str s) [AV.str s] := as_one (one_str s)
theorem as_list (sz : Nat) (es : List (List AV)) : AsCells (AV.list sz es) [AV.list sz es] := as_one (one_list sz es)
theorem as_is {v : Value} (h : v.oneCell' = true) : AsCells (AV.is v) [AV.is v] := as_one fun R u hu => by cases (show u = _ from hu); exact h
theorem run_storeAt {w : World} {g off : Nat} {t t' : TypeId} {cur : List Value} {u : Value} (hg : w.heap[g]? = some (.cells cur.toArray t' (0, 0))) (hs : (sizeOf t).run P w = .ok u.cells.size w) (hl : off + u.cells.size ≤ cur.length)
    (h1 : ∀ x ∈ u.cells.toList, x.oneCell' = true) : (Instr.storeAt t (.pointer (some ⟨g, off, none⟩)) u).run P w = .ok () (w.setRow g (cur.take off ++ u.cells.toList ++ cur.drop (off + u.cells.size)).toArray) := by
  have h2 := run_storeCells_at (P := P) g off t' u.cells.toList 0 cur.toArray w hg (by simp; omega) h1
  simp only [Nat.add_zero, Array.length_toList] at h2
  simp only [Instr.storeAt, Instr.sureAddr, storeVar, Sem.run_bind, Sem.run_pure, Result.andThen_ok, hs, ne_eq, not_true_eq_false, if_false, h2]
theorem sq_storeB {ops : Array Oper} {o : Oper} {rest : List Oper} {env : List (Nat × AV)} {K : AState → Prop} {t t' : TypeId} {p q : Operand} {b off : Nat} {cs ys : List AV} {x : AV} (i : Nat) (hg : o.guard = none) (ho : o.op = .store t p q) (hd : o.dst = none)
    (hp : Ev (getv · env) p (AV.ptr b off)) (hq : Ev (getv · env) q x) (hx : AsCells x ys) (hi : own[i]? = some (.box b t' cs)) (hs : ∀ w, (sizeOf t).run P w = .ok ys.length w) (hl' : Nat.ble (off + ys.length) cs.length = true)
    (k : ASeq P G n ops rest ⟨own.set i (.box b t' (splice cs off ys)), env⟩ K) : ASeq P G n ops (o :: rest) ⟨own, env⟩ K :=
  opS_run hg fun w0 R0 R a w ⟨h1, h2, h3, h4⟩ => by
    have e1 : a.eval p = .pointer (some ⟨b, off, none⟩) := ev_st (s := ⟨own, env⟩) (o := o) hp h2
    have e2 := hx R _ (ev_st (s := ⟨own, env⟩) (o := o) hq h2)
    have hl := Nat.le_of_ble_eq_true hl'
    obtain ⟨hR, vs, hb, hdc⟩ := h1.owned _ (List.mem_of_getElem? hi)
    have hsz : (a.eval q).cells.size = ys.length := by rw [← Array.length_toList]; exact e2.1
    have hst := run_storeAt (P := P) (t := t) (off := off) (u := a.eval q) hb (by rw [hsz]; exact hs w) (by rw [hsz, hdc.1]; exact hl) (fun u hu => by
      obtain ⟨j, hj⟩ := List.getElem?_of_mem hu
      have hjl : j < ys.length := by rw [← e2.1]; exact (List.getElem?_eq_some_iff.1 hj).1
      exact (e2.2 j u _ hj (List.getElem?_eq_getElem hjl)).2)
    have hrun : (execOp a.eval o).run P w = .ok .skip (w.setRow b (vs.take off ++ (a.eval q).cells.toList ++ vs.drop (off + (a.eval q).cells.size)).toArray) := by
      simp only [execOp, ho, e1, hst, Sem.run_bind, Sem.run_pure, Result.andThen_ok]
    unfold Oper.wp
    rw [hrun, Oper.upon_skip, hd]
    refine ⟨_, R, k, RSub.refl _, core_set h1 hi rfl rfl ⟨hR, _, setRow_heap w b _ _ t' _ hb, ?_⟩ (setRow_grown w b _), h2, h3, h4⟩
    rw [← Array.length_toList]
    exact denC_splice hdc e2 hl

theorem splice_one {cs : List AV} {off : Nat} {y : AV} (h : off < cs.length) : splice cs off [y] = cs.set off y := by
  unfold splice
  rw [List.set_eq_take_append_cons_drop, if_pos h]
  simp
theorem splice_all {cs ys : List AV} (h : ys.length = cs.length) : splice cs 0 ys = ys := by
  unfold splice
  simp [h]
theorem sq_storeB1 {ops : Array Oper} {o : Oper} {rest : List Oper} {env : List (Nat × AV)} {K : AState → Prop} {t t' : TypeId} {p q : Operand} {b off : Nat} {cs : List AV} {x y : AV} (i : Nat) (hg : o.guard = none) (ho : o.op = .store t p q) (hd : o.dst = none)
    (hp : Ev (getv · env) p (AV.ptr b off)) (hq : Ev (getv · env) q x) (hx : AsCells x [y]) (hi : own[i]? = some (.box b t' cs)) (hs : ∀ w, (sizeOf t).run P w = .ok 1 w) (hl' : Nat.ble (off + 1) cs.length = true)
    (k : ASeq P G n ops rest ⟨own.set i (.box b t' (cs.set off y)), env⟩ K) : ASeq P G n ops (o :: rest) ⟨own, env⟩ K :=
  sq_storeB i hg ho hd hp hq hx hi hs hl' (by rw [splice_one (Nat.le_of_ble_eq_true hl')]; exact k)
theorem sq_storeB0 {ops : Array Oper} {o : Oper} {rest : List Oper} {env : List (Nat × AV)} {K : AState → Prop} {t t' : TypeId} {p q : Operand} {b : Nat} {cs ys : List AV} {x : AV} (i : Nat) (hg : o.guard = none) (ho : o.op = .store t p q) (hd : o.dst = none)
    (hp : Ev (getv · env) p (AV.ptr b 0)) (hq : Ev (getv · env) q x) (hx : AsCells x ys) (hi : own[i]? = some (.box b t' cs)) (hs : ∀ w, (sizeOf t).run P w = .ok ys.length w) (hl' : Nat.beq ys.length cs.length = true)
    (k : ASeq P G n ops rest ⟨own.set i (.box b t' ys), env⟩ K) : ASeq P G n ops (o :: rest) ⟨own, env⟩ K := by
  have e := Nat.eq_of_beq_eq_true hl'
  refine sq_storeB i hg ho hd hp hq hx hi hs ?_ ?_
  · rw [Nat.zero_add, e]; exact Nat.ble_self_eq_true _
  · rw [splice_all e]; exact k

theorem take_splice {α : Type} {A u : List α} {k m : Nat} (hm : m ≤ A.length) (h : k + u.length ≤ m) : (A.take k ++ u ++ A.drop (k + u.length)).take m = (A.take m).take k ++ u ++ (A.take m).drop (k + u.length) := by
  have e1 : (A.take k).length = k := by simp; omega
  rw [List.append_assoc, List.take_append, e1, List.take_append, List.take_of_length_le (l := A.take k) (by omega), List.take_of_length_le (l := u) (by omega), List.take_take, Nat.min_eq_left (by omega), List.drop_take, List.append_assoc, Nat.sub_sub]
theorem flatten_take {α : Type} {sz : Nat} : ∀ {es : List (List α)} (k : Nat), (∀ e ∈ es, e.length = sz) → (es.take k).flatten = es.flatten.take (k * sz)
  | [], k, _ => by simp
  | e0 :: es, 0, _ => by simp
  | e0 :: es, k + 1, h => by
    have h0 : e0.length = sz := h e0 (by simp)
    rw [List.take_succ_cons, List.flatten_cons, List.flatten_cons, flatten_take k fun e he => h e (by simp [he]), List.take_append, List.take_of_length_le (l := e0) (by rw [h0, Nat.add_mul]; omega)]
    rw [show (k + 1) * sz - e0.length = k * sz by rw [h0, Nat.add_mul]; omega]
theorem flatten_drop {α : Type} {sz : Nat} : ∀ {es : List (List α)} (k : Nat), (∀ e ∈ es, e.length = sz) → (es.drop k).flatten = es.flatten.drop (k * sz)
  | [], k, _ => by simp
  | e0 :: es, 0, _ => by simp
  | e0 :: es, k + 1, h => by
    have h0 : e0.length = sz := h e0 (by simp)
    rw [List.drop_succ_cons, List.flatten_cons, flatten_drop k fun e he => h e (by simp [he]), List.drop_append, List.drop_eq_nil_of_le (as := e0) (by rw [h0, Nat.add_mul]; omega), List.nil_append]
    rw [show (k + 1) * sz - e0.length = k * sz by rw [h0, Nat.add_mul]; omega]
theorem flatten_set {sz : Nat} {es : List (List AV)} {k : Nat} {ys : List AV} (h : ∀ e ∈ es, e.length = sz) (hy : ys.length = sz) (hk : k < es.length) : (es.set k ys).flatten = splice es.flatten (k * sz) ys := by
  rw [List.set_eq_take_append_cons_drop, if_pos hk, List.flatten_append, List.flatten_cons, flatten_take k h, flatten_drop (k + 1) h]
  unfold splice
  rw [hy, List.append_assoc, Nat.add_mul, Nat.one_mul]

/-! ### Arrays that the call makes -/
def elemPtr : Value → Nat → Value
  | .slice (some a) _ _, k => .pointer (some (a.add k))
  | _, _ => .pointer none
section arrs
variable {E : EnvF} {o : Oper} {p q : Operand} {t e : TypeId} {v : Value} {sz : Nat} {es : List (List AV)}
theorem own_form {w : World} {base : Nat} {n : Nat} {xs : List Value} (h : w.ownsRow base e sz v n xs) : ∃ oa c, v = .slice oa n c ∧ n ≤ c := by
  rcases h.2 with ⟨rfl, rfl⟩ | ⟨g, cap, cur, rfl, _, _, hn, _⟩
  · exact ⟨none, 0, rfl, Nat.le_refl _⟩
  · exact ⟨_, cap, rfl, hn⟩
theorem w_alen (i : Nat) (ho : o.op = .call { callee := .builtin .len, args := #[p], argTypes := #[t] }) (ht : P.underlying t = some (.slice e)) (hp : Ev E p (AV.is v)) (hi : own[i]? = some (.arr v e sz es)) : OpW P G n own o E (AV.int es.length) := opW_core fun w0 R0 R a w hcore he => by
  have h1 : a.eval p = v := ev_use hp (by simp [ho, Op.operands, Call.operands]) he
  obtain ⟨_, _, xs, hown, _⟩ := hcore.owned _ (List.mem_of_getElem? hi)
  obtain ⟨oa, c, rfl, _⟩ := own_form hown
  have hel : P.elem t = e := by simp [Program.elem, ht]
  have h2 := run_len_slice (P := P) w t o.type oa es.length c (by rw [hel]; exact ht)
  exact ⟨.int .i64 es.length, by simp only [execOp, ho, resolve, invoke, builtin, List.map_toArray, List.map_cons, List.map_nil, h1, h2, Sem.run_bind, Sem.run_pure, Result.andThen_ok, goInt], rfl⟩
theorem w_aidx {k : Int} (i : Nat) (ho : o.op = .indexAddr t p q) (ht : P.underlying t = some (.slice e)) (hsz : ∀ w, (sizeOf e).run P w = .ok sz w) (hp : Ev E p (AV.is v)) (hi : own[i]? = some (.arr v e sz es)) (hq : Ev E q (AV.int k)) (h0 : 0 ≤ k) (hk : k < es.length) :
    OpW P G n own o E (AV.is (elemPtr v (k.toNat * sz))) := opW_core fun w0 R0 R a w hcore he => by
  have h1 : a.eval p = v := ev_use hp (by simp [ho, Op.operands]) he
  have h2 : a.eval q = .int .i64 k := ev_use hq (by simp [ho, Op.operands]) he
  obtain ⟨_, _, xs, hown, _⟩ := hcore.owned _ (List.mem_of_getElem? hi)
  rcases hown.2 with ⟨rfl, hz⟩ | ⟨g, cap, cur, rfl, _⟩
  · rw [hz] at hk; simp at hk; omega
  · have hel : P.elem t = e := by simp [Program.elem, ht]
    have h3 := run_indexAt_slice (P := P) w t ⟨g, 0, none⟩ es.length cap .i64 k (by rw [hel]; exact ht)
    rw [if_pos ⟨h0, hk⟩, hel, hsz, Result.andThen_ok] at h3
    exact ⟨.pointer (some (Addr.add ⟨g, 0, none⟩ (k.toNat * sz))), by simp only [execOp, ho, h1, h2, h3, Sem.run_bind, Sem.run_pure, Result.andThen_ok], rfl⟩
theorem sq_storeA {ops : Array Oper} {rest : List Oper} {env : List (Nat × AV)} {K : AState → Prop} {k : Nat} {ys : List AV} {x : AV} (i : Nat) (hg : o.guard = none) (ho : o.op = .store e p q) (hd : o.dst = none)
    (hp : Ev (getv · env) p (AV.is (elemPtr v (k * sz)))) (hq : Ev (getv · env) q x) (hx : AsCells x ys) (hi : own[i]? = some (.arr v e sz es)) (hs : ∀ w, (sizeOf e).run P w = .ok sz w) (hys : ys.length = sz) (hl : k < es.length)
    (c : ASeq P G n ops rest ⟨own.set i (.arr v e sz (es.set k ys)), env⟩ K) : ASeq P G n ops (o :: rest) ⟨own, env⟩ K :=
  opS_run hg fun w0 R0 R a w ⟨h1, h2, h3, h4⟩ => by
    have e1 : a.eval p = _ := ev_st (s := ⟨own, env⟩) (o := o) hp h2
    have e2 := hx R _ (ev_st (s := ⟨own, env⟩) (o := o) hq h2)
    obtain ⟨hR, hu, xs, hown, hdc⟩ := h1.owned _ (List.mem_of_getElem? hi)
    have hsz : (a.eval q).cells.size = ys.length := by rw [← Array.length_toList]; exact e2.1
    rcases hown.2 with ⟨rfl, hz⟩ | ⟨g, cap, cur, rfl, hbase, hg', hn, hm, hcs, htake⟩
    · rw [hz] at hl; simp at hl
    · have hfl : xs.length = es.length * sz := hown.1
      have hk1 : k * sz + sz ≤ es.length * sz := by
        have := Nat.mul_le_mul_right sz (show k + 1 ≤ es.length by omega)
        rwa [Nat.add_mul, Nat.one_mul] at this
      have hk2 : es.length * sz ≤ cap * sz := Nat.mul_le_mul_right sz hn
      have e3 : elemPtr (.slice (some ⟨g, 0, none⟩) es.length cap) (k * sz) = .pointer (some ⟨g, k * sz, none⟩) := by
        show Value.pointer (some (Addr.add ⟨g, 0, none⟩ (k * sz))) = _
        unfold Addr.add; split <;> simp_all
      have hcur : w.heap[g]? = some (.cells cur.toList.toArray e (0, 0)) := by simpa using hg'
      have hst := run_storeAt (P := P) (t := e) (off := k * sz) (u := a.eval q) hcur (by rw [hsz, hys]; exact hs w) (by rw [hsz, hys, Array.length_toList, hcs]; omega) (fun u hu => by
        obtain ⟨j, hj⟩ := List.getElem?_of_mem hu
        have hjl : j < ys.length := by rw [← e2.1]; exact (List.getElem?_eq_some_iff.1 hj).1
        exact (e2.2 j u _ hj (List.getElem?_eq_getElem hjl)).2)
      have hrun : (execOp a.eval o).run P w = .ok .skip (w.setRow g (cur.toList.take (k * sz) ++ (a.eval q).cells.toList ++ cur.toList.drop (k * sz + (a.eval q).cells.size)).toArray) := by
        simp only [execOp, ho, e1, e3, hst, Sem.run_bind, Sem.run_pure, Result.andThen_ok]
      unfold Oper.wp
      rw [hrun, Oper.upon_skip, hd]
      refine ⟨_, R, c, RSub.refl _, core_set h1 hi rfl rfl ⟨hR, fun z hz => ?_, xs.take (k * sz) ++ (a.eval q).cells.toList ++ xs.drop (k * sz + (a.eval q).cells.toList.length), ⟨?_, .inr ⟨g, cap, _, by rw [List.length_set], hbase, setRow_heap w g _ _ e _ hg', by rw [List.length_set]; exact hn, hm, ?_, ?_⟩⟩, ?_⟩ (setRow_grown w g _), h2, h3, h4⟩
      · rcases List.mem_or_eq_of_mem_set hz with h | h
        · exact hu z h
        · rw [h]; exact hys
      · rw [List.length_set]; simp; omega
      · simp; omega
      · rw [List.length_set, ← htake]
        have l1 : (a.eval q).cells.toList.length = sz := by rw [e2.1, hys]
        have l2 : (a.eval q).cells.size = sz := by rw [hsz, hys]
        have l3 : cur.toList.length = cap * sz := by rw [Array.length_toList, hcs]
        rw [← Array.length_toList]
        exact take_splice (by omega) (by rw [l1]; omega)
      · have hfe : (es.set k ys).flatten = splice es.flatten (k * sz) ys := flatten_set hu hys hl
        rw [hfe]
        refine denC_splice hdc e2 ?_
        rw [flatten_len hu, hys]; exact hk1
end arrs
end
end Go.AV
