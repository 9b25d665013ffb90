/- Contracts with own memory: results that hold several arrays; fields of own elements; literal rows of the call's own. -/
import Derived.Test.YteliahajeokciaaAvG
set_option linter.unusedVariables false
set_option linter.unusedSimpArgs false
namespace Go.AV
open Go.RowKit (Below)
section
variable {P : Program} {G : Nat → Prop} {n : Nat} {own : List Own} {o : Oper} {E : EnvF}
/-! ### Nil slices are owned by everyone -/
theorem nil_ok (R : RHeap) (w : World) (e : TypeId) (sz : Nat) : Own.ok R w (.arr (.slice none 0 0) e sz []) :=
  ⟨fun b hb => by simp [Value.ownBlock] at hb, fun x hx => by simp at hx, [], ⟨by simp, .inl ⟨rfl, rfl⟩⟩, ⟨rfl, fun i v x h => by simp at h⟩⟩
theorem le_nilown {env : List (Nat × AV)} (e : TypeId) (sz : Nat) : Le G n ⟨own, env⟩ ⟨.arr (.slice none 0 0) e sz [] :: own, env⟩ := fun w0 R0 R a w ⟨h1, h2, h3⟩ =>
  ⟨R, RSub.refl _, ⟨h1.os, h1.tape, h1.output, h1.size, h1.block, h1.rle, h1.rold, fun q hq => by
      rcases List.mem_cons.1 hq with rfl | hq
      · exact nil_ok R w e sz
      · exact h1.owned q hq, fun q hq b hb => by
      rcases List.mem_cons.1 hq with rfl | hq
      · simp [Own.blk, Value.ownBlock] at hb
      · exact h1.fresh q hq b hb, by simpa [List.filterMap_cons, Own.blk, Value.ownBlock] using h1.sep⟩, h2, h3⟩
theorem le_perm {env : List (Nat × AV)} {own' : List Own} (h : own.Perm own') : Le G n ⟨own, env⟩ ⟨own', env⟩ := fun _ _ R _ _ ⟨h1, h2, h3⟩ => ⟨R, RSub.refl _, core_perm h1 h, h2, h3⟩
theorem le_pick {env : List (Nat × AV)} {sel rest : List Own} (is : List Nat) (h : pick own is = (sel, rest)) : Le G n ⟨own, env⟩ ⟨sel ++ rest, env⟩ := fun _ _ R _ _ ⟨h1, h2, h3⟩ => ⟨R, RSub.refl _, core_pick h1 h, h2, h3⟩
section
variable {α : Type} {ok : α → Prop} {O : α → List Own} {V : α → AV} {fn : Func}
theorem retG_le {s s' : AState} (h : Le G n s s') (k : RetOkG P G n fn s' ok O V) : RetOkG P G n fn s ok O V := fun w0 R0 R a w hs => by
  obtain ⟨R1, h1, h2⟩ := h w0 R0 R a w hs
  obtain ⟨x, v, R2, q1, q2, q3, q4, q5⟩ := k w0 R0 R1 a w h2
  exact ⟨x, v, R2, q1, q2, q3, h1.trans q4, q5⟩
theorem retG_nil {env : List (Nat × AV)} (e : TypeId) (sz : Nat) (k : RetOkG P G n fn ⟨.arr (.slice none 0 0) e sz [] :: own, env⟩ ok O V) : RetOkG P G n fn ⟨own, env⟩ ok O V := retG_le (le_nilown e sz) k
end
theorem sq_nilown {ops : Array Oper} {rs : List Oper} {K : AState → Prop} {env : List (Nat × AV)} (e : TypeId) (sz : Nat) (k : ASeq P G n ops (o :: rs) ⟨.arr (.slice none 0 0) e sz [] :: own, env⟩ K) : ASeq P G n ops (o :: rs) ⟨own, env⟩ K := sq_le (le_nilown e sz) k
theorem awp_nilown {c : Code} {Q : Exit → AState → Prop} {env : List (Nat × AV)} (e : TypeId) (sz : Nat) (k : AWP P G n c Q ⟨.arr (.slice none 0 0) e sz [] :: own, env⟩) : AWP P G n c Q ⟨own, env⟩ := AWP.le (le_nilown e sz) k
/-- A slot that holds nil, as an own array. -/
theorem le_nilslot {env : List (Nat × AV)} (t : Nat) (e : TypeId) (sz : Nat) : Le G n ⟨own, env⟩ ⟨.arr (.slice none 0 0) e sz [] :: own, env⟩ := le_nilown e sz

/-! ### Lending what lies in boxes; flat aggregates -/
theorem lt_boxc {b : Nat} {t : TypeId} {cs ys : List AV} (hm : Own.box b t cs ∈ own) (h : LendC own cs ys) : LendTo own (AV.ptr b 0) (AV.eptr ys) := fun G w0 R0 R w u hc hu => by
  cases (show u = _ from hu)
  obtain ⟨_, vs, hb, hd⟩ := hc.owned _ hm
  have hl : lend own w R b = some (.cells vs.toArray t (0, 0)) := by
    unfold lend; rw [ownB_mem hm rfl]; exact hb
  refine ⟨_, rfl, fun j y hy => ?_⟩
  have hjx : j < cs.length := by rw [h.1]; exact (List.getElem?_eq_some_iff.1 hy).1
  have hx := List.getElem?_eq_getElem hjx
  have hj : j < vs.length := by rw [hd.1]; exact hjx
  have hv : vs[j]? = some vs[j] := List.getElem?_eq_getElem hj
  exact ⟨vs[j], by rw [addr_add]; simp [rcell, hl, hv], h.2 j _ y hx hy G w0 R0 R w _ hc (hd.2 j _ _ hv hx).1, (hd.2 j _ _ hv hx).2⟩
theorem lt_nils {sz : Nat} : LendTo own AV.nils (AV.list sz []) := fun G w0 R0 R w u hc hu => nils_list _ _ hu
theorem flat_tup {xs : List AV} (h : ∀ c ∈ xs, Flat c) : Flat (AV.tup xs) := fun R R' v ⟨vs, e, hl, hd⟩ => ⟨vs, e, hl, fun i u x hu hx => h x (List.mem_of_getElem? hx) R R' u (hd i u x hu hx)⟩
theorem flat_agg {xs : List AV} (h : ∀ c ∈ xs, Flat c) : Flat (AV.agg xs) := fun R R' v ⟨vs, e, hd⟩ => ⟨vs, e, denC_flat hd h⟩
theorem flatO_box {b : Nat} {t : TypeId} {cs : List AV} (h : ∀ c ∈ cs, Flat c) : FlatO (.box b t cs) := h
theorem flatO_arr {v : Value} {t : TypeId} {sz : Nat} {es : List (List AV)} (h : ∀ e ∈ es, ∀ c ∈ e, Flat c) : FlatO (.arr v t sz es) := h
theorem flate_nil : ∀ e ∈ ([] : List (List AV)), ∀ c ∈ e, Flat c := fun e h => by simp at h
theorem flate_cons {x : List AV} {xs : List (List AV)} (h : ∀ c ∈ x, Flat c) (k : ∀ e ∈ xs, ∀ c ∈ e, Flat c) : ∀ e ∈ x :: xs, ∀ c ∈ e, Flat c := fun e he => by
  rcases List.mem_cons.1 he with rfl | he
  · exact h
  · exact k e he
theorem flate_app {xs ys : List (List AV)} (h : ∀ e ∈ xs, ∀ c ∈ e, Flat c) (k : ∀ e ∈ ys, ∀ c ∈ e, Flat c) : ∀ e ∈ xs ++ ys, ∀ c ∈ e, Flat c := fun e he => by
  rcases List.mem_append.1 he with he | he
  · exact h e he
  · exact k e he
theorem flate_map {α : Type} {f : α → List AV} {l : List α} (h : ∀ x, ∀ c ∈ f x, Flat c) : ∀ e ∈ l.map f, ∀ c ∈ e, Flat c := fun e he => by
  obtain ⟨x, _, rfl⟩ := List.mem_map.1 he
  exact h x
theorem flate_rep {m : Nat} {z : List AV} (h : ∀ c ∈ z, Flat c) : ∀ e ∈ List.replicate m z, ∀ c ∈ e, Flat c := fun e he => by
  rw [(List.mem_replicate.1 he).2]; exact h
theorem flat_nils : Flat AV.nils := flat_is _
theorem flat_ptr (b off : Nat) : Flat (AV.ptr b off) := flat_is _

/-! ### Fields of an own array's elements -/
theorem elemPtr_add {v : Value} {j k : Nat} {a : Addr} (h : elemPtr v j = .pointer (some a)) : elemPtr v (j + k) = .pointer (some (a.add k)) := by
  unfold elemPtr at *
  split at h
  · injection h with h; injection h with h; subst h; rw [add_add]
  · injection h with h; cases h
theorem app_get {α : Type} {A B : List α} {y : α} {k : Nat} (hk : A.length = k) : (A ++ y :: B)[k]? = some y := by subst hk; simp
theorem app_set {α : Type} {A B : List α} {y z : α} {k : Nat} (hk : A.length = k) : (A ++ y :: B).set k z = A ++ z :: B := by subst hk; simp
theorem w_fldX {t e : TypeId} {p : Operand} {fs : Array Field} {fd : Field} {f m k : Nat} {v : Value} {sz : Nat} {es : List (List AV)} {ys : List AV} (i : Nat) (ho : o.op = .fieldAddr t p f) (ht : P.underlying t = some (.struct fs)) (hk : fs[f]? = some fd) (hs : ∀ w, (sizeOf fd.type).run P w = .ok (m + 1) w)
    (hp : Ev E p (AV.is (elemPtr v (k * sz)))) (hi : own[i]? = some (.arr v e sz es)) (hpos : Nat.ble 1 sz = true) (hy : es[k]? = some ys) : OpW P G n own o E (AV.is (elemPtr v (k * sz + fd.offset))) := opW_core fun w0 R0 R a w hc he => by
  have e1 : a.eval p = _ := ev_use hp (by simp [ho, Op.operands]) he
  have hok := hc.owned _ (List.mem_of_getElem? hi)
  have hu := hok.2.1
  have hyl : ys.length = sz := hu ys (List.mem_of_getElem? hy)
  have hb1 := Nat.le_of_ble_eq_true hpos
  obtain ⟨g, u0, h1, _⟩ := own_cells hok (flatten_get hu hy (List.getElem?_eq_getElem (show 0 < ys.length by omega)))
  simp only [Nat.add_zero] at h1
  rw [h1] at e1
  refine ⟨_, ?_, show elemPtr v (k * sz + fd.offset) = _ from rfl⟩
  rw [elemPtr_add h1]
  simp only [execOp, ho, e1, Instr.fieldAt, run_underlying ht, hk, Instr.sureAddr, fieldPlace, hs, Sem.run_bind, Sem.run_pure, Result.andThen_ok, Sem.run_ite, Nat.add_eq_zero_iff, Nat.succ_ne_self, Nat.one_ne_zero, and_false, if_false]
theorem w_loadXf {t e : TypeId} {p : Operand} {v : Value} {sz k off : Nat} {es : List (List AV)} {ys : List AV} {x : AV} (i : Nat) (ho : o.op = .load t p) (hp : Ev E p (AV.is (elemPtr v (k * sz + off)))) (hi : own[i]? = some (.arr v e sz es)) (ha : ∀ w, (isAgg t).run P w = .ok false w) (hy : es[k]? = some ys) (hx : ys[off]? = some x) : OpW P G n own o E x := opW_core fun w0 R0 R a w hc he => by
  have e1 : a.eval p = _ := ev_use hp (by simp [ho, Op.operands]) he
  have hok := hc.owned _ (List.mem_of_getElem? hi)
  obtain ⟨g, u, h1, _, h2, h3, _⟩ := own_cells hok (flatten_get hok.2.1 hy hx)
  rw [h1] at e1
  exact ⟨u, by simp only [execOp, ho, e1, Instr.loadAt, Instr.sureAddr, loadVar, Sem.run_bind, Sem.run_pure, Result.andThen_ok, ha, Bool.false_eq_true, if_false, run_load, h2], h3⟩
theorem flatten_set1 {sz : Nat} : ∀ {es : List (List AV)} {k off : Nat} {ys : List AV} {y : AV}, (∀ e ∈ es, e.length = sz) → es[k]? = some ys → off < sz → (es.set k (ys.set off y)).flatten = es.flatten.set (k * sz + off) y
  | [], k, off, ys, y, _, h, _ => by simp at h
  | e0 :: es, 0, off, ys, y, hu, h, ho => by
    simp at h; subst h
    have h0 : e0.length = sz := hu e0 (by simp)
    simp only [List.set_cons_zero, List.flatten_cons, Nat.zero_mul, Nat.zero_add]
    rw [List.set_append_left _ _ (by omega)]
  | e0 :: es, k + 1, off, ys, y, hu, h, ho => by
    have h0 : e0.length = sz := hu e0 (by simp)
    simp only [List.set_cons_succ, List.flatten_cons]
    rw [flatten_set1 (fun e he => hu e (by simp [he])) (by simpa using h) ho, List.set_append_right _ _ (by rw [h0, Nat.add_mul]; omega)]
    congr 2
    rw [h0, Nat.add_mul]; omega
theorem set_take {α : Type} {A : List α} {u : α} {k m : Nat} (h : k < m) : (A.set k u).take m = (A.take m).set k u := by
  rw [List.take_set]
/-- One cell of an element is written. -/
theorem sq_storeX {ops : Array Oper} {rest : List Oper} {env : List (Nat × AV)} {K : AState → Prop} {t e : TypeId} {p q : Operand} {v : Value} {sz k off : Nat} {es : List (List AV)} {ys : List AV} {x y : AV} (i : Nat) (hg : o.guard = none) (ho : o.op = .store t p q) (hd : o.dst = none)
    (hp : Ev (getv · env) p (AV.is (elemPtr v (k * sz + off)))) (hq : Ev (getv · env) q x) (hx : AsCells x [y]) (hi : own[i]? = some (.arr v e sz es)) (hs : ∀ w, (sizeOf t).run P w = .ok 1 w) (hy : es[k]? = some ys) (hl' : Nat.blt off sz = true)
    (c : ASeq P G n ops rest ⟨own.set i (.arr v e sz (es.set k (ys.set off y))), env⟩ K) : ASeq P G n ops (o :: rest) ⟨own, env⟩ K :=
  opS_run hg fun w0 R0 R a w ⟨h1, h2, h3, h4⟩ => by
    have e1 : a.eval p = _ := ev_st (s := ⟨own, env⟩) (o := o) hp h2
    have e2 := hx R _ (ev_st (s := ⟨own, env⟩) (o := o) hq h2)
    have hl : off < sz := Nat.blt_eq.mp hl'
    have hok := h1.owned _ (List.mem_of_getElem? hi)
    obtain ⟨hR, hu, xs, hown, hdc⟩ := hok
    have hyl : ys.length = sz := hu ys (List.mem_of_getElem? hy)
    have hkl : k < es.length := (List.getElem?_eq_some_iff.1 hy).1
    have hsz : (a.eval q).cells.size = 1 := by rw [← Array.length_toList]; exact e2.1
    obtain ⟨u, hcu⟩ : ∃ u, (a.eval q).cells.toList = [u] := by
      have h9 : (a.eval q).cells.toList.length = 1 := e2.1
      match hm : (a.eval q).cells.toList, h9 with
      | [u], _ => exact ⟨u, rfl⟩
    rw [hcu] at e2
    have hu1 := e2.2 0 u y rfl rfl
    rcases hown.2 with ⟨rfl, hz⟩ | ⟨g, cap, cur, rfl, hbase, hg', hn, hm, hcs, htake⟩
    · have := (List.getElem?_eq_some_iff.1 hy).1
      rw [hz] at this; simp at this
    · have hfl : xs.length = es.length * sz := hown.1
      have hk1 : k * sz + sz ≤ es.length * sz := by
        have := Nat.mul_le_mul_right sz (show k + 1 ≤ es.length by omega)
        rwa [Nat.add_mul, Nat.one_mul] at this
      have hk2 : es.length * sz ≤ cap * sz := Nat.mul_le_mul_right sz hn
      have e3 : elemPtr (.slice (some ⟨g, 0, none⟩) es.length cap) (k * sz + off) = .pointer (some ⟨g, k * sz + off, none⟩) := by
        show Value.pointer (some (Addr.add ⟨g, 0, none⟩ (k * sz + off))) = _
        rw [addr_add, Nat.zero_add]
      have hcur : w.heap[g]? = some (.cells cur.toList.toArray e (0, 0)) := by simpa using hg'
      have hst := run_storeAt (P := P) (t := t) (off := k * sz + off) (u := a.eval q) hcur (by rw [hsz]; exact hs w) (by rw [hsz, Array.length_toList, hcs]; omega) (fun z hz => by
        rw [hcu] at hz; rw [List.mem_singleton.1 hz]; exact hu1.2)
      have hlist : cur.toList.take (k * sz + off) ++ (a.eval q).cells.toList ++ cur.toList.drop (k * sz + off + (a.eval q).cells.size) = cur.toList.set (k * sz + off) u := by
        rw [hcu, hsz, List.set_eq_take_append_cons_drop, if_pos (by rw [Array.length_toList, hcs]; omega)]
        simp
      rw [hlist] at hst
      have hrun : (execOp a.eval o).run P w = .ok .skip (w.setRow g (cur.toList.set (k * sz + off) u).toArray) := by
        simp only [execOp, ho, e1, e3, hst, Sem.run_bind, Sem.run_pure, Result.andThen_ok]
      unfold Oper.wp
      rw [hrun, Oper.upon_skip, hd]
      refine ⟨_, R, c, RSub.refl _, core_set h1 hi rfl rfl ⟨hR, fun z hz => ?_, xs.set (k * sz + off) u, ⟨?_, .inr ⟨g, cap, _, by rw [List.length_set], hbase, setRow_heap w g _ _ e _ hg', by rw [List.length_set]; exact hn, hm, ?_, ?_⟩⟩, ?_⟩ (setRow_grown w g _), h2, h3, h4⟩
      · rcases List.mem_or_eq_of_mem_set hz with h | h
        · exact hu z h
        · rw [h, List.length_set]; exact hyl
      · rw [List.length_set, List.length_set]; exact hfl
      · simp; omega
      · rw [List.length_set, ← htake]
        show List.take (es.length * sz) (cur.toList.set (k * sz + off) u) = _
        rw [List.take_set]
      · rw [flatten_set1 hu hy hl]
        refine ⟨by rw [List.length_set, List.length_set]; exact hdc.1, fun j z x' hz hx' => ?_⟩
        by_cases hj : k * sz + off = j
        · subst hj
          rw [List.getElem?_set_self (by rw [hfl]; omega)] at hz
          rw [List.getElem?_set_self (by rw [← hdc.1, hfl]; omega)] at hx'
          injection hz with hz; injection hx' with hx'
          subst hz; subst hx'; exact hu1
        · rw [List.getElem?_set_ne hj] at hz hx'
          exact hdc.2 j z x' hz hx'
theorem sq_storeXA {ops : Array Oper} {rest : List Oper} {env : List (Nat × AV)} {K : AState → Prop} {t e : TypeId} {p q : Operand} {v : Value} {sz k off : Nat} {A B : List (List AV)} {ys : List AV} {x y : AV} (i : Nat) (hg : o.guard = none) (ho : o.op = .store t p q) (hd : o.dst = none)
    (hp : Ev (getv · env) p (AV.is (elemPtr v (k * sz + off)))) (hq : Ev (getv · env) q x) (hx : AsCells x [y]) (hi : own[i]? = some (.arr v e sz (A ++ ys :: B))) (hs : ∀ w, (sizeOf t).run P w = .ok 1 w) (hk : A.length = k) (hl' : Nat.blt off sz = true)
    (c : ASeq P G n ops rest ⟨own.set i (.arr v e sz (A ++ ys.set off y :: B)), env⟩ K) : ASeq P G n ops (o :: rest) ⟨own, env⟩ K :=
  sq_storeX i hg ho hd hp hq hx hi hs (app_get hk) hl' (by rw [app_set hk]; exact c)
/-- An element is written whole, where the row stands parted. -/
theorem sq_storeAA {ops : Array Oper} {rest : List Oper} {env : List (Nat × AV)} {K : AState → Prop} {e : TypeId} {p q : Operand} {v : Value} {sz k : Nat} {A B : List (List AV)} {ys zs : List AV} {x : AV} (i : Nat) (hg : o.guard = none) (ho : o.op = .store e p q) (hd : o.dst = none)
    (hp : Ev (getv · env) p (AV.is (elemPtr v (k * sz)))) (hq : Ev (getv · env) q x) (hx : AsCells x ys) (hi : own[i]? = some (.arr v e sz (A ++ zs :: B))) (hs : ∀ w, (sizeOf e).run P w = .ok sz w) (hys : ys.length = sz) (hk : A.length = k)
    (c : ASeq P G n ops rest ⟨own.set i (.arr v e sz (A ++ ys :: B)), env⟩ K) : ASeq P G n ops (o :: rest) ⟨own, env⟩ K :=
  sq_storeA i hg ho hd hp hq hx hi hs hys (by subst hk; simp) (by rw [app_set hk]; exact c)
/-- A literal row of the call's own. -/
theorem afill_len {sz : Nat} : ∀ (as : List (Nat × List AV)) (cs cs' : List AV), afill (fun i => some (i * sz, sz)) cs as = some cs' → cs'.length = cs.length
  | [], cs, cs', h => by simp only [afill, Option.some.injEq] at h; rw [h]
  | b :: as, cs, cs', h => by
    obtain ⟨i, ys⟩ := b
    simp only [afill] at h
    cases hb : (Nat.beq ys.length sz && Nat.ble (i * sz + ys.length) cs.length) with
    | false => rw [hb] at h; cases h
    | true =>
      rw [hb] at h
      simp only [Bool.and_eq_true] at hb
      have := Nat.le_of_ble_eq_true hb.2
      rw [afill_len as _ _ h]
      simp [splice]; omega
theorem sq_bsliceO {ops : Array Oper} {rest : List Oper} {env : List (Nat × AV)} {K : AState → Prop} {t e : TypeId} {d len sz : Nat} {z : Value} {ps : Array (Nat × Operand)} {as : List (Nat × List AV)} {cs : List AV} {es : List (List AV)} (hg : o.guard = none) (ho : o.op = .buildSlice t len ps) (hd : o.dst = some d) (hn : Nat.blt d n = true) (ht : P.underlying t = some (.slice e)) (hsz : ∀ w, (sizeOf e).run P w = .ok sz w) (hz : ∀ w, (zeroValue e).run P w = .ok z w)
    (hl : Nat.ble (len * sz) 1000 = true) (hl2 : Nat.ble len 1000 = true) (hzs : z.cells.size = sz) (h1' : z.cells.toList.all Value.oneCell' = true) (hp : EvP (getv · env) ps.toList as) (hc : afill (fun i => some (i * sz, sz)) ((List.range (len * sz)).map fun i => zeroA (z.cells[i % z.cells.size]!)) as = some cs) (hes : chunks sz len cs = es)
    (k : ∀ v', ASeq P G n ops rest ⟨.arr v' e sz es :: own, (d, AV.is v') :: env⟩ K) : ASeq P G n ops (o :: rest) ⟨own, env⟩ K :=
  opS_run hg fun w0 R0 R a w ⟨h1, h2, h3, h4⟩ => by
    obtain ⟨k1, k2⟩ := evp_use (o := o) (fun t _ y hy => h2 t y hy) hp fun p hpm => by simp [ho, Op.operands]; exact ⟨p.1, by simpa using hpm⟩
    have hone : ∀ i, i < len * sz → (z.cells[i % z.cells.size]!).oneCell' = true := fun i hi => by
      have hpos : 0 < z.cells.size := by
        rw [hzs]
        rcases Nat.eq_zero_or_pos sz with h0 | h0
        · subst h0; simp at hi
        · exact h0
      rw [getElem!_pos z.cells _ (Nat.mod_lt _ hpos)]
      exact List.all_eq_true.1 h1' _ (by simp)
    obtain ⟨cells', f2, f3⟩ := fill_den (R := R) (place := fun i => some (i * sz, sz)) _ as ((Array.range (len * sz)).map fun i => z.cells[i % z.cells.size]!) _ cs ⟨by simp, fun i v y hv hy => by
      rw [Array.toList_map, List.getElem?_map, Array.toList_range] at hv
      rw [List.getElem?_map] at hy
      by_cases hi : i < len * sz
      · rw [List.getElem?_range hi] at hv hy
        simp only [Option.map_some, Option.some.injEq] at hv hy
        rw [← hv, ← hy]
        exact ⟨zeroA_den R _, hone i hi⟩
      · rw [List.getElem?_eq_none (by simp; omega)] at hv; cases hv⟩ k1 k2 hc
    have hlen := Nat.le_of_ble_eq_true hl
    have h5 : cells'.toList.length = len * sz := by
      rw [f3.1, afill_len as _ cs hc]; simp
    have hch := chunks_flat sz len cs (by rw [← f3.1]; exact h5)
    have h6 : (ps.map fun (i, x) => (i, a.eval x)).toList = ps.toList.map fun p => (p.1, a.eval p.2) := by simp
    have hrun : (execOp a.eval o).run P w = .ok (.value (.slice (some ⟨w.heap.size, 0, none⟩) len len)) (w.alloc (.cells cells' e)) := by
      have hcap : ¬ (len * sz > 2 ^ 24) := by omega
      by_cases h0 : len * sz = 0
      · have h7 : (Array.range (len * sz)).map (fun x => (#[] : Array Value)[x % (#[] : Array Value).size]!) = (Array.range (len * sz)).map fun i => z.cells[i % z.cells.size]! := by rw [h0]; simp
        rw [← h7] at f2
        simp only [execOp, ho, Instr.buildSlice, run_underlying ht, hsz, hcap, if_false, Sem.run_bind, Sem.run_pure, Result.andThen_ok, Sem.run_ite, if_pos h0, h6, f2, newRow, run_newObj, World.alloc_eq]
      · simp only [execOp, ho, Instr.buildSlice, run_underlying ht, hsz, hcap, if_false, Sem.run_bind, Sem.run_pure, Result.andThen_ok, Sem.run_ite, if_neg h0, hz, h6, f2, newRow, run_newObj, World.alloc_eq]
    unfold Oper.wp
    rw [hrun, Oper.upon_value, hd]
    have hlz : es.length = len := by rw [← hes, chunks_len]
    refine ⟨_, R, k _, RSub.refl _, core_arr_new (sz := sz) (m := len) (cap := len) (es := es) h1 hlz (Nat.le_refl _) (by have := Nat.le_of_ble_eq_true hl2; unfold maxLen; omega) (by rw [← Array.length_toList]; exact h5) (by rw [← hes]; exact hch.2) ?_, env_put h2 (RSub.refl _) (by rw [h3]; exact Nat.blt_eq.mp hn) rfl, by rw [size_put]; exact h3, by rw [defers_put]; exact h4⟩
    rw [List.take_of_length_le (by rw [h5]; exact Nat.le_refl _), ← hes, hch.1]
    exact f3
end
end Go.AV
