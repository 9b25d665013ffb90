/- Texts of the claim, part 2. -/
import Derived.Laws.BytesArg
import Derived.Laws.IdiomStrings
import Derived.Lib.AppendZerosOnto
import Derived.Lib.Overlaps
import Derived.Test.YtcglmbinmfkafaaZMergeFeed1

set_option linter.unusedVariables false
set_option linter.unusedSimpArgs false
namespace Go.AV
open Go.RowKit (Below)
section
variable {P : Program} {G : Nat → Prop} {n : Nat} {own : List Own} {o : Oper} {E : EnvF}
/-! ### Nil slices are owned by everyone -/
theorem nil_ok (R : RHeap) (w : World) (e : TypeId) (sz : Nat) : Own.ok R w (.arr (.slice none 0 0) e sz []) :=
  ⟨fun b hb => by simp [Value.ownBlock] at hb, fun x hx => by simp at hx, [], ⟨by simp, .inl ⟨rfl, rfl⟩⟩, ⟨rfl, fun i v x h => by simp at h⟩⟩
theorem le_nilown {env : List (Nat × AV)} (e : TypeId) (sz : Nat) : Le G n ⟨own, env⟩ ⟨.arr (.slice none 0 0) e sz [] :: own, env⟩ := fun w0 R0 R a w ⟨h1, h2, h3⟩ =>
  ⟨R, RSub.refl _, ⟨h1.os, h1.tape, h1.output, h1.size, h1.block, h1.rle, h1.rold, fun q hq => by
      rcases List.mem_cons.1 hq with rfl | hq
      · exact nil_ok R w e sz
      · exact h1.owned q hq, fun q hq b hb => by
      rcases List.mem_cons.1 hq with rfl | hq
      · simp [Own.blk, Value.ownBlock] at hb
      · exact h1.fresh q hq b hb, by simpa [List.filterMap_cons, Own.blk, Value.ownBlock] using h1.sep⟩, h2, h3⟩
theorem le_perm {env : List (Nat × AV)} {own' : List Own} (h : own.Perm own') : Le G n ⟨own, env⟩ ⟨own', env⟩ := fun _ _ R _ _ ⟨h1, h2, h3⟩ => ⟨R, RSub.refl _, core_perm h1 h, h2, h3⟩
theorem le_pick {env : List (Nat × AV)} {sel rest : List Own} (is : List Nat) (h : pick own is = (sel, rest)) : Le G n ⟨own, env⟩ ⟨sel ++ rest, env⟩ := fun _ _ R _ _ ⟨h1, h2, h3⟩ => ⟨R, RSub.refl _, core_pick h1 h, h2, h3⟩
section
variable {α : Type} {ok : α → Prop} {O : α → List Own} {V : α → AV} {fn : Func}
theorem retG_le {s s' : AState} (h : Le G n s s') (k : RetOkG P G n fn s' ok O V) : RetOkG P G n fn s ok O V := fun w0 R0 R a w hs => by
  obtain ⟨R1, h1, h2⟩ := h w0 R0 R a w hs
  obtain ⟨x, v, R2, q1, q2, q3, q4, q5⟩ := k w0 R0 R1 a w h2
  exact ⟨x, v, R2, q1, q2, q3, h1.trans q4, q5⟩
theorem retG_nil {env : List (Nat × AV)} (e : TypeId) (sz : Nat) (k : RetOkG P G n fn ⟨.arr (.slice none 0 0) e sz [] :: own, env⟩ ok O V) : RetOkG P G n fn ⟨own, env⟩ ok O V := retG_le (le_nilown e sz) k
end
theorem sq_nilown {ops : Array Oper} {rs : List Oper} {K : AState → Prop} {env : List (Nat × AV)} (e : TypeId) (sz : Nat) (k : ASeq P G n ops (o :: rs) ⟨.arr (.slice none 0 0) e sz [] :: own, env⟩ K) : ASeq P G n ops (o :: rs) ⟨own, env⟩ K := sq_le (le_nilown e sz) k
theorem awp_nilown {c : Code} {Q : Exit → AState → Prop} {env : List (Nat × AV)} (e : TypeId) (sz : Nat) (k : AWP P G n c Q ⟨.arr (.slice none 0 0) e sz [] :: own, env⟩) : AWP P G n c Q ⟨own, env⟩ := AWP.le (le_nilown e sz) k
/-- A slot that holds nil, asl an own array. -/
theorem le_nilslot {env : List (Nat × AV)} (t : Nat) (e : TypeId) (sz : Nat) : Le G n ⟨own, env⟩ ⟨.arr (.slice none 0 0) e sz [] :: own, env⟩ := le_nilown e sz

/-! ### Lending what lies in boxes; flat aggregates -/
theorem lt_boxc {b : Nat} {t : TypeId} {cs ys : List AV} (hm : Own.box b t cs ∈ own) (h : LendC own cs ys) : LendTo own (AV.ptr b 0) (AV.eptr ys) := fun G w0 R0 R w u hc hu => by
  cases (show u = _ from hu)
  obtain ⟨_, vs, hb, hd⟩ := hc.owned _ hm
  have hl : lend own w R b = some (.cells vs.toArray t (0, 0)) := by
    unfold lend; rw [ownB_mem hm rfl]; exact hb
  refine ⟨_, rfl, fun j y hy => ?_⟩
  have hjx : j < cs.length := by rw [h.1]; exact (List.getElem?_eq_some_iff.1 hy).1
  have hx := List.getElem?_eq_getElem hjx
  have hj : j < vs.length := by rw [hd.1]; exact hjx
  have hv : vs[j]? = some vs[j] := List.getElem?_eq_getElem hj
  exact ⟨vs[j], by rw [addr_add]; simp [rcell, hl, hv], h.2 j _ y hx hy G w0 R0 R w _ hc (hd.2 j _ _ hv hx).1, (hd.2 j _ _ hv hx).2⟩
theorem lt_nils {sz : Nat} : LendTo own AV.nils (AV.list sz []) := fun G w0 R0 R w u hc hu => nils_list _ _ hu
theorem flat_tup {xs : List AV} (h : ∀ c ∈ xs, Flat c) : Flat (AV.tup xs) := fun R R' v ⟨vs, e, hl, hd⟩ => ⟨vs, e, hl, fun i u x hu hx => h x (List.mem_of_getElem? hx) R R' u (hd i u x hu hx)⟩
theorem flat_agg {xs : List AV} (h : ∀ c ∈ xs, Flat c) : Flat (AV.agg xs) := fun R R' v ⟨vs, e, hd⟩ => ⟨vs, e, denC_flat hd h⟩
theorem flatO_box {b : Nat} {t : TypeId} {cs : List AV} (h : ∀ c ∈ cs, Flat c) : FlatO (.box b t cs) := h
theorem flatO_arr {v : Value} {t : TypeId} {sz : Nat} {es : List (List AV)} (h : ∀ e ∈ es, ∀ c ∈ e, Flat c) : FlatO (.arr v t sz es) := h
theorem flate_nil : ∀ e ∈ ([] : List (List AV)), ∀ c ∈ e, Flat c := fun e h => by simp at h
theorem flate_cons {x : List AV} {xs : List (List AV)} (h : ∀ c ∈ x, Flat c) (k : ∀ e ∈ xs, ∀ c ∈ e, Flat c) : ∀ e ∈ x :: xs, ∀ c ∈ e, Flat c := fun e he => by
  rcases List.mem_cons.1 he with rfl | he
  · exact h
  · exact k e he
theorem flate_app {xs ys : List (List AV)} (h : ∀ e ∈ xs, ∀ c ∈ e, Flat c) (k : ∀ e ∈ ys, ∀ c ∈ e, Flat c) : ∀ e ∈ xs ++ ys, ∀ c ∈ e, Flat c := fun e he => by
  rcases List.mem_append.1 he with he | he
  · exact h e he
  · exact k e he
theorem flate_map {α : Type} {f : α → List AV} {l : List α} (h : ∀ x, ∀ c ∈ f x, Flat c) : ∀ e ∈ l.map f, ∀ c ∈ e, Flat c := fun e he => by
  obtain ⟨x, _, rfl⟩ := List.mem_map.1 he
  exact h x
theorem flate_rep {m : Nat} {z : List AV} (h : ∀ c ∈ z, Flat c) : ∀ e ∈ List.replicate m z, ∀ c ∈ e, Flat c := fun e he => by
  rw [(List.mem_replicate.1 he).2]; exact h
theorem flat_nils : Flat AV.nils := flat_is _
theorem flat_ptr (b off : Nat) : Flat (AV.ptr b off) := flat_is _

/-! ### Fields of an own array's elements -/
theorem elemPtr_add {v : Value} {j k : Nat} {a : Addr} (h : elemPtr v j = .pointer (some a)) : elemPtr v (j + k) = .pointer (some (a.add k)) := by
  unfold elemPtr at *
  split at h
  · injection h with h; injection h with h; subst h; rw [add_add]
  · injection h with h; cases h
theorem app_get {α : Type} {A B : List α} {y : α} {k : Nat} (hk : A.length = k) : (A ++ y :: B)[k]? = some y := by subst hk; simp
theorem app_set {α : Type} {A B : List α} {y z : α} {k : Nat} (hk : A.length = k) : (A ++ y :: B).set k z = A ++ z :: B := by subst hk; simp
theorem w_fldX {t e : TypeId} {p : Operand} {fs : Array Field} {fd : Field} {f m k : Nat} {v : Value} {sz : Nat} {es : List (List AV)} {ys : List AV} (i : Nat) (ho : o.op = .fieldAddr t p f) (ht : P.underlying t = some (.struct fs)) (hk : fs[f]? = some fd) (hs : ∀ w, (sizeOf fd.type).run P w = .ok (m + 1) w)
    (hp : Ev E p (AV.is (elemPtr v (k * sz)))) (hi : own[i]? = some (.arr v e sz es)) (hpos : Nat.ble 1 sz = true) (hy : es[k]? = some ys) : OpW P G n own o E (AV.is (elemPtr v (k * sz + fd.offset))) := opW_core fun w0 R0 R a w hc he => by
  have e1 : a.eval p = _ := ev_use hp (by simp [ho, Op.operands]) he
  have hok := hc.owned _ (List.mem_of_getElem? hi)
  have hu := hok.2.1
  have hyl : ys.length = sz := hu ys (List.mem_of_getElem? hy)
  have hb1 := Nat.le_of_ble_eq_true hpos
  obtain ⟨g, u0, h1, _⟩ := own_cells hok (flatten_get hu hy (List.getElem?_eq_getElem (show 0 < ys.length by omega)))
  simp only [Nat.add_zero] at h1
  rw [h1] at e1
  refine ⟨_, ?_, show elemPtr v (k * sz + fd.offset) = _ from rfl⟩
  rw [elemPtr_add h1]
  simp only [execOp, ho, e1, Instr.fieldAt, run_underlying ht, hk, Instr.sureAddr, fieldPlace, hs, Sem.run_bind, Sem.run_pure, Result.andThen_ok, Sem.run_ite, Nat.add_eq_zero_iff, Nat.succ_ne_self, Nat.one_ne_zero, and_false, if_false]
theorem w_loadXf {t e : TypeId} {p : Operand} {v : Value} {sz k off : Nat} {es : List (List AV)} {ys : List AV} {x : AV} (i : Nat) (ho : o.op = .load t p) (hp : Ev E p (AV.is (elemPtr v (k * sz + off)))) (hi : own[i]? = some (.arr v e sz es)) (ha : ∀ w, (isAgg t).run P w = .ok false w) (hy : es[k]? = some ys) (hx : ys[off]? = some x) : OpW P G n own o E x := opW_core fun w0 R0 R a w hc he => by
  have e1 : a.eval p = _ := ev_use hp (by simp [ho, Op.operands]) he
  have hok := hc.owned _ (List.mem_of_getElem? hi)
  obtain ⟨g, u, h1, _, h2, h3, _⟩ := own_cells hok (flatten_get hok.2.1 hy hx)
  rw [h1] at e1
  exact ⟨u, by simp only [execOp, ho, e1, Instr.loadAt, Instr.sureAddr, loadVar, Sem.run_bind, Sem.run_pure, Result.andThen_ok, ha, Bool.false_eq_true, if_false, run_load, h2], h3⟩
theorem flatten_set1 {sz : Nat} : ∀ {es : List (List AV)} {k off : Nat} {ys : List AV} {y : AV}, (∀ e ∈ es, e.length = sz) → es[k]? = some ys → off < sz → (es.set k (ys.set off y)).flatten = es.flatten.set (k * sz + off) y
  | [], k, off, ys, y, _, h, _ => by simp at h
  | e0 :: es, 0, off, ys, y, hu, h, ho => by
    simp at h; subst h
    have h0 : e0.length = sz := hu e0 (by simp)
    simp only [List.set_cons_zero, List.flatten_cons, Nat.zero_mul, Nat.zero_add]
    rw [List.set_append_left _ _ (by omega)]
  | e0 :: es, k + 1, off, ys, y, hu, h, ho => by
    have h0 : e0.length = sz := hu e0 (by simp)
    simp only [List.set_cons_succ, List.flatten_cons]
    rw [flatten_set1 (fun e he => hu e (by simp [he])) (by simpa using h) ho, List.set_append_right _ _ (by rw [h0, Nat.add_mul]; omega)]
    congr 2
    rw [h0, Nat.add_mul]; omega
theorem set_take {α : Type} {A : List α} {u : α} {k m : Nat} (h : k < m) : (A.set k u).take m = (A.take m).set k u := by
  rw [List.take_set]
/-- One cell of an element is written. -/
theorem sq_storeX {ops : Array Oper} {rest : List Oper} {env : List (Nat × AV)} {K : AState → Prop} {t e : TypeId} {p q : Operand} {v : Value} {sz k off : Nat} {es : List (List AV)} {ys : List AV} {x y : AV} (i : Nat) (hg : o.guard = none) (ho : o.op = .store t p q) (hd : o.dst = none)
    (hp : Ev (getv · env) p (AV.is (elemPtr v (k * sz + off)))) (hq : Ev (getv · env) q x) (hx : AsCells x [y]) (hi : own[i]? = some (.arr v e sz es)) (hs : ∀ w, (sizeOf t).run P w = .ok 1 w) (hy : es[k]? = some ys) (hl' : Nat.blt off sz = true)
    (c : ASeq P G n ops rest ⟨own.set i (.arr v e sz (es.set k (ys.set off y))), env⟩ K) : ASeq P G n ops (o :: rest) ⟨own, env⟩ K :=
  opS_run hg fun w0 R0 R a w ⟨h1, h2, h3, h4⟩ => by
    have e1 : a.eval p = _ := ev_st (s := ⟨own, env⟩) (o := o) hp h2
    have e2 := hx R _ (ev_st (s := ⟨own, env⟩) (o := o) hq h2)
    have hl : off < sz := Nat.blt_eq.mp hl'
    have hok := h1.owned _ (List.mem_of_getElem? hi)
    obtain ⟨hR, hu, xs, hown, hdc⟩ := hok
    have hyl : ys.length = sz := hu ys (List.mem_of_getElem? hy)
    have hkl : k < es.length := (List.getElem?_eq_some_iff.1 hy).1
    have hsz : (a.eval q).cells.size = 1 := by rw [← Array.length_toList]; exact e2.1
    obtain ⟨u, hcu⟩ : ∃ u, (a.eval q).cells.toList = [u] := by
      have h9 : (a.eval q).cells.toList.length = 1 := e2.1
      match hm : (a.eval q).cells.toList, h9 with
      | [u], _ => exact ⟨u, rfl⟩
    rw [hcu] at e2
    have hu1 := e2.2 0 u y rfl rfl
    rcases hown.2 with ⟨rfl, hz⟩ | ⟨g, cap, cur, rfl, hbase, hg', hn, hm, hcs, htake⟩
    · have := (List.getElem?_eq_some_iff.1 hy).1
      rw [hz] at this; simp at this
    · have hfl : xs.length = es.length * sz := hown.1
      have hk1 : k * sz + sz ≤ es.length * sz := by
        have := Nat.mul_le_mul_right sz (show k + 1 ≤ es.length by omega)
        rwa [Nat.add_mul, Nat.one_mul] at this
      have hk2 : es.length * sz ≤ cap * sz := Nat.mul_le_mul_right sz hn
      have e3 : elemPtr (.slice (some ⟨g, 0, none⟩) es.length cap) (k * sz + off) = .pointer (some ⟨g, k * sz + off, none⟩) := by
        show Value.pointer (some (Addr.add ⟨g, 0, none⟩ (k * sz + off))) = _
        rw [addr_add, Nat.zero_add]
      have hcur : w.heap[g]? = some (.cells cur.toList.toArray e (0, 0)) := by simpa using hg'
      have hst := run_storeAt (P := P) (t := t) (off := k * sz + off) (u := a.eval q) hcur (by rw [hsz]; exact hs w) (by rw [hsz, Array.length_toList, hcs]; omega) (fun z hz => by
        rw [hcu] at hz; rw [List.mem_singleton.1 hz]; exact hu1.2)
      have hlist : cur.toList.take (k * sz + off) ++ (a.eval q).cells.toList ++ cur.toList.drop (k * sz + off + (a.eval q).cells.size) = cur.toList.set (k * sz + off) u := by
        rw [hcu, hsz, List.set_eq_take_append_cons_drop, if_pos (by rw [Array.length_toList, hcs]; omega)]
        simp
      rw [hlist] at hst
      have hrun : (execOp a.eval o).run P w = .ok .skip (w.setRow g (cur.toList.set (k * sz + off) u).toArray) := by
        simp only [execOp, ho, e1, e3, hst, Sem.run_bind, Sem.run_pure, Result.andThen_ok]
      unfold Oper.wp
      rw [hrun, Oper.upon_skip, hd]
      refine ⟨_, R, c, RSub.refl _, core_set h1 hi rfl rfl ⟨hR, fun z hz => ?_, xs.set (k * sz + off) u, ⟨?_, .inr ⟨g, cap, _, by rw [List.length_set], hbase, setRow_heap w g _ _ e _ hg', by rw [List.length_set]; exact hn, hm, ?_, ?_⟩⟩, ?_⟩ (setRow_grown w g _), h2, h3, h4⟩
      · rcases List.mem_or_eq_of_mem_set hz with h | h
        · exact hu z h
        · rw [h, List.length_set]; exact hyl
      · rw [List.length_set, List.length_set]; exact hfl
      · simp; omega
      · rw [List.length_set, ← htake]
        show List.take (es.length * sz) (cur.toList.set (k * sz + off) u) = _
        rw [List.take_set]
      · rw [flatten_set1 hu hy hl]
        refine ⟨by rw [List.length_set, List.length_set]; exact hdc.1, fun j z x' hz hx' => ?_⟩
        by_cases hj : k * sz + off = j
        · subst hj
          rw [List.getElem?_set_self (by rw [hfl]; omega)] at hz
          rw [List.getElem?_set_self (by rw [← hdc.1, hfl]; omega)] at hx'
          injection hz with hz; injection hx' with hx'
          subst hz; subst hx'; exact hu1
        · rw [List.getElem?_set_ne hj] at hz hx'
          exact hdc.2 j z x' hz hx'
theorem sq_storeXA {ops : Array Oper} {rest : List Oper} {env : List (Nat × AV)} {K : AState → Prop} {t e : TypeId} {p q : Operand} {v : Value} {sz k off : Nat} {A B : List (List AV)} {ys : List AV} {x y : AV} (i : Nat) (hg : o.guard = none) (ho : o.op = .store t p q) (hd : o.dst = none)
    (hp : Ev (getv · env) p (AV.is (elemPtr v (k * sz + off)))) (hq : Ev (getv · env) q x) (hx : AsCells x [y]) (hi : own[i]? = some (.arr v e sz (A ++ ys :: B))) (hs : ∀ w, (sizeOf t).run P w = .ok 1 w) (hk : A.length = k) (hl' : Nat.blt off sz = true)
    (c : ASeq P G n ops rest ⟨own.set i (.arr v e sz (A ++ ys.set off y :: B)), env⟩ K) : ASeq P G n ops (o :: rest) ⟨own, env⟩ K :=
  sq_storeX i hg ho hd hp hq hx hi hs (app_get hk) hl' (by rw [app_set hk]; exact c)
/-- An element is written whole, where the row stands parted. -/
theorem sq_storeAA {ops : Array Oper} {rest : List Oper} {env : List (Nat × AV)} {K : AState → Prop} {e : TypeId} {p q : Operand} {v : Value} {sz k : Nat} {A B : List (List AV)} {ys zs : List AV} {x : AV} (i : Nat) (hg : o.guard = none) (ho : o.op = .store e p q) (hd : o.dst = none)
    (hp : Ev (getv · env) p (AV.is (elemPtr v (k * sz)))) (hq : Ev (getv · env) q x) (hx : AsCells x ys) (hi : own[i]? = some (.arr v e sz (A ++ zs :: B))) (hs : ∀ w, (sizeOf e).run P w = .ok sz w) (hys : ys.length = sz) (hk : A.length = k)
    (c : ASeq P G n ops rest ⟨own.set i (.arr v e sz (A ++ ys :: B)), env⟩ K) : ASeq P G n ops (o :: rest) ⟨own, env⟩ K :=
  sq_storeA i hg ho hd hp hq hx hi hs hys (by subst hk; simp) (by rw [app_set hk]; exact c)
/-- A literal row of the call's own. -/
theorem afill_len {sz : Nat} : ∀ (asl : List (Nat × List AV)) (cs cs' : List AV), afill (fun i => some (i * sz, sz)) cs asl = some cs' → cs'.length = cs.length
  | [], cs, cs', h => by simp only [afill, Option.some.injEq] at h; rw [h]
  | b :: asl, cs, cs', h => by
    obtain ⟨i, ys⟩ := b
    simp only [afill] at h
    cases hb : (Nat.beq ys.length sz && Nat.ble (i * sz + ys.length) cs.length) with
    | false => rw [hb] at h; cases h
    | true =>
      rw [hb] at h
      simp only [Bool.and_eq_true] at hb
      have := Nat.le_of_ble_eq_true hb.2
      rw [afill_len asl _ _ h]
      simp [splice]; omega
theorem sq_bsliceO {ops : Array Oper} {rest : List Oper} {env : List (Nat × AV)} {K : AState → Prop} {t e : TypeId} {d len sz : Nat} {z : Value} {ps : Array (Nat × Operand)} {asl : List (Nat × List AV)} {cs : List AV} {es : List (List AV)} (hg : o.guard = none) (ho : o.op = .buildSlice t len ps) (hd : o.dst = some d) (hn : Nat.blt d n = true) (ht : P.underlying t = some (.slice e)) (hsz : ∀ w, (sizeOf e).run P w = .ok sz w) (hz : ∀ w, (zeroValue e).run P w = .ok z w)
    (hl : Nat.ble (len * sz) 1000 = true) (hl2 : Nat.ble len 1000 = true) (hzs : z.cells.size = sz) (h1' : z.cells.toList.all Value.oneCell' = true) (hp : EvP (getv · env) ps.toList asl) (hc : afill (fun i => some (i * sz, sz)) ((List.range (len * sz)).map fun i => zeroA (z.cells[i % z.cells.size]!)) asl = some cs) (hes : chunks sz len cs = es)
    (k : ∀ v', ASeq P G n ops rest ⟨.arr v' e sz es :: own, (d, AV.is v') :: env⟩ K) : ASeq P G n ops (o :: rest) ⟨own, env⟩ K :=
  opS_run hg fun w0 R0 R a w ⟨h1, h2, h3, h4⟩ => by
    obtain ⟨k1, k2⟩ := evp_use (o := o) (fun t _ y hy => h2 t y hy) hp fun p hpm => by simp [ho, Op.operands]; exact ⟨p.1, by simpa using hpm⟩
    have hone : ∀ i, i < len * sz → (z.cells[i % z.cells.size]!).oneCell' = true := fun i hi => by
      have hpos : 0 < z.cells.size := by
        rw [hzs]
        rcases Nat.eq_zero_or_pos sz with h0 | h0
        · subst h0; simp at hi
        · exact h0
      rw [getElem!_pos z.cells _ (Nat.mod_lt _ hpos)]
      exact List.all_eq_true.1 h1' _ (by simp)
    obtain ⟨cells', f2, f3⟩ := fill_den (R := R) (place := fun i => some (i * sz, sz)) _ asl ((Array.range (len * sz)).map fun i => z.cells[i % z.cells.size]!) _ cs ⟨by simp, fun i v y hv hy => by
      rw [Array.toList_map, List.getElem?_map, Array.toList_range] at hv
      rw [List.getElem?_map] at hy
      by_cases hi : i < len * sz
      · rw [List.getElem?_range hi] at hv hy
        simp only [Option.map_some, Option.some.injEq] at hv hy
        rw [← hv, ← hy]
        exact ⟨zeroA_den R _, hone i hi⟩
      · rw [List.getElem?_eq_none (by simp; omega)] at hv; cases hv⟩ k1 k2 hc
    have hlen := Nat.le_of_ble_eq_true hl
    have h5 : cells'.toList.length = len * sz := by
      rw [f3.1, afill_len asl _ cs hc]; simp
    have hch := chunks_flat sz len cs (by rw [← f3.1]; exact h5)
    have h6 : (ps.map fun (i, x) => (i, a.eval x)).toList = ps.toList.map fun p => (p.1, a.eval p.2) := by simp
    have hrun : (execOp a.eval o).run P w = .ok (.value (.slice (some ⟨w.heap.size, 0, none⟩) len len)) (w.alloc (.cells cells' e)) := by
      have hcap : ¬ (len * sz > 2 ^ 24) := by omega
      by_cases h0 : len * sz = 0
      · have h7 : (Array.range (len * sz)).map (fun x => (#[] : Array Value)[x % (#[] : Array Value).size]!) = (Array.range (len * sz)).map fun i => z.cells[i % z.cells.size]! := by rw [h0]; simp
        rw [← h7] at f2
        simp only [execOp, ho, Instr.buildSlice, run_underlying ht, hsz, hcap, if_false, Sem.run_bind, Sem.run_pure, Result.andThen_ok, Sem.run_ite, if_pos h0, h6, f2, newRow, run_newObj, World.alloc_eq]
      · simp only [execOp, ho, Instr.buildSlice, run_underlying ht, hsz, hcap, if_false, Sem.run_bind, Sem.run_pure, Result.andThen_ok, Sem.run_ite, if_neg h0, hz, h6, f2, newRow, run_newObj, World.alloc_eq]
    unfold Oper.wp
    rw [hrun, Oper.upon_value, hd]
    have hlz : es.length = len := by rw [← hes, chunks_len]
    refine ⟨_, R, k _, RSub.refl _, core_arr_new (sz := sz) (m := len) (cap := len) (es := es) h1 hlz (Nat.le_refl _) (by have := Nat.le_of_ble_eq_true hl2; unfold maxLen; omega) (by rw [← Array.length_toList]; exact h5) (by rw [← hes]; exact hch.2) ?_, env_put h2 (RSub.refl _) (by rw [h3]; exact Nat.blt_eq.mp hn) rfl, by rw [size_put]; exact h3, by rw [defers_put]; exact h4⟩
    rw [List.take_of_length_le (by rw [h5]; exact Nat.le_refl _), ← hes, hch.1]
    exact f3
end
end Go.AV

set_option linter.unusedVariables false
set_option linter.unusedSimpArgs false
namespace Go.AV
open Go.RowKit (Below)
section
variable {P : Program} {G : Nat → Prop} {n : Nat}
/-- An operation with an effect on what is owned. -/
def OpE (P : Program) (G : Nat → Prop) (n : Nat) (W : List Own) (ops : Array Oper) (o : Oper) (E : EnvF) {α : Type} (ok : α → Prop) (W' : α → List Own) (V : α → AV) : Prop :=
  ∀ w0 R0 R a w, Core G w0 R0 W R w → a.tmps.size = n → (∀ t ∈ o.looksAt ops, ∀ y, E t = some y → y.den R (a.tmps.getD t undef)) →
    o.wp P a w (fun a' w' => ∃ x v R', ok x ∧ a' = a.put o.dst v ∧ Core G w0 R0 (W' x) R' w' ∧ RSub R R' ∧ (V x).den R' v) (fun _ _ _ => False)
theorem OpE.congr {W : List Own} {ops : Array Oper} {o : Oper} {E E' : EnvF} {α : Type} {ok : α → Prop} {W' : α → List Own} {V : α → AV} (h : OpE P G n W ops o E ok W' V) (he : ∀ t ∈ o.looksAt ops, E' t = E t) : OpE P G n W ops o E' ok W' V :=
  fun w0 R0 R a w h1 h2 h3 => h w0 R0 R a w h1 h2 fun t ht y hy => h3 t ht y (by rw [he t ht]; exact hy)
def InvX (base W : List Own) : Prop := ∃ ext, W = base ++ ext
theorem invx_self {own : List Own} : InvX own own := ⟨[], (List.append_nil _).symm⟩
theorem invx_all {own : List Own} : InvX [] own := ⟨own, rfl⟩
theorem invx_take {own : List Own} (k : Nat) : InvX (own.take k) own := ⟨own.drop k, (List.take_append_drop k own).symm⟩
theorem invx_mk {base W ext : List Own} (h : W = base ++ ext) : InvX base W := ⟨ext, h⟩
theorem one_isv {u : Value} (h : u.oneCell' = true) (R : RHeap) (v : Value) (hv : (AV.is u).den R v) : v.oneCell' = true := by cases (show v = u from hv); exact h
theorem own_one {R : RHeap} {w : World} {v : Value} {e : TypeId} {sz : Nat} {es : List (List AV)} (h : Own.ok R w (.arr v e sz es)) : v.oneCell' = true := by
  obtain ⟨_, _, xs, hown, _⟩ := h
  obtain ⟨oa, c, rfl, _⟩ := own_form hown
  rfl
theorem sq_fact {own : List Own} {ops : Array Oper} {o : Oper} {rs : List Oper} {K : AState → Prop} {env : List (Nat × AV)} {v : Value} {e : TypeId} {sz : Nat} {es : List (List AV)} (i : Nat) (hi : own[i]? = some (.arr v e sz es)) (k : v.oneCell' = true → ASeq P G n ops (o :: rs) ⟨own, env⟩ K) : ASeq P G n ops (o :: rs) ⟨own, env⟩ K := fun w0 R0 R a w hs =>
  k (own_one (hs.1.owned _ (List.mem_of_getElem? hi))) w0 R0 R a w hs
theorem sq_own {own own' : List Own} {ops : Array Oper} {o : Oper} {rs : List Oper} {K : AState → Prop} {env : List (Nat × AV)} (h : own = own') (k : ASeq P G n ops (o :: rs) ⟨own', env⟩ K) : ASeq P G n ops (o :: rs) ⟨own, env⟩ K := by subst h; exact k
theorem awp_own {own own' : List Own} {c : Code} {Q : Exit → AState → Prop} {env : List (Nat × AV)} (h : own = own') (k : AWP P G n c Q ⟨own', env⟩) : AWP P G n c Q ⟨own, env⟩ := by subst h; exact k
theorem w_fldBn {own : List Own} {o : Oper} {E : EnvF} {t : TypeId} {p : Operand} {b off : Nat} {fs : Array Field} {fd : Field} {k j : Nat} (m : Nat) (ho : o.op = .fieldAddr t p k) (ht : P.underlying t = some (.struct fs)) (hk : fs[k]? = some fd) (hs : ∀ w, (sizeOf fd.type).run P w = .ok (j + 1) w)
    (hp : Ev E p (AV.ptr b off)) (hm : off + fd.offset = m) : OpW P G n own o E (AV.ptr b m) := by subst hm; exact w_fldB ho ht hk hs hp
theorem gspec_sel {f : FuncId} {xs : List AV} {sel sel' : List Own} {α : Type} {ok : α → Prop} {O : α → List Own} {V : α → AV} (h : sel' = sel) (hs : GSpec P f xs sel ok O V) : GSpec P f xs sel' ok O V := by subst h; exact hs
theorem gspec_arg {f : FuncId} {xs xs' : List AV} {sel : List Own} {α : Type} {ok : α → Prop} {O : α → List Own} {V : α → AV} (h : xs' = xs) (hs : GSpec P f xs sel ok O V) : GSpec P f xs' sel ok O V := by subst h; exact hs
theorem fspec_arg {f : FuncId} {xs xs' : List AV} {y : AV} (h : xs' = xs) (hs : FSpec P f xs y) : FSpec P f xs' y := by subst h; exact hs
theorem own2 {a b a' b' : List (List AV)} {v w : Value} {s t : TypeId} {m k : Nat} (h : a = a') (k' : b = b') : [Own.arr v s m a, Own.arr w t k b] = [Own.arr v s m a', Own.arr w t k b'] := by subst h; subst k'; rfl
theorem own1 {a a' : List (List AV)} {v : Value} {s : TypeId} {m : Nat} (h : a = a') : [Own.arr v s m a] = [Own.arr v s m a'] := by subst h; rfl
def qB (P : Program) (G : Nat → Prop) (n : Nat) (Inv : List Own → Prop) (ops : Array Oper) (i : Nat) (K : EnvF → List Own → Prop) (E : EnvF) (W : List Own) : Prop :=
  match ops[i]? with
  | none => K E W
  | some o => (∃ x, OpA P G n W ops o E x ∧ K (updF o.dst x E) W) ∨
      (o.guard = none ∧ ∃ (α : Type) (ok : α → Prop) (W' : α → List Own) (V : α → AV), OpE P G n W ops o E ok W' V ∧ (∀ a, ok a → Inv (W' a)) ∧ ∀ a, ok a → K (updF o.dst (V a) E) (W' a))
theorem qB_mono {Inv : List Own → Prop} {ops : Array Oper} {i : Nat} {E : EnvF} {W : List Own} {K K' : EnvF → List Own → Prop} (hW : Inv W) (h : ∀ E W, Inv W → K E W → K' E W) (hh : qB P G n Inv ops i K E W) : qB P G n Inv ops i K' E W := by
  unfold qB at *
  split
  · exact h _ _ hW (by simpa [*] using hh)
  · rename_i o ho
    simp only [ho] at hh
    rcases hh with ⟨x, h1, h2⟩ | ⟨hg, α, ok, W', V, h1, h2, h3⟩
    · exact .inl ⟨x, h1, h _ _ hW h2⟩
    · exact .inr ⟨hg, α, ok, W', V, h1, h2, fun a ha => h _ _ (h2 a ha) (h3 a ha)⟩
def wpAnyB (P : Program) (G : Nat → Prop) (n : Nat) (Inv : List Own → Prop) (md : Region.Mode) (ops : Array Oper) (m : Nat) (L : Array Bool → EnvF → List Own → Prop) : Nat → Array Bool → EnvF → List Own → Prop
  | 0, listed, E, W => L listed E W
  | f + 1, listed, E, W => Region.ready md ops listed ≠ [] ∧ ∀ i ∈ Region.ready md ops listed, i < m ∧ qB P G n Inv ops i (wpAnyB P G n Inv md ops m L f (listed.setIfInBounds i true)) E W
theorem wpAny_of_B {Inv : List Own → Prop} {md : Region.Mode} {ops : Array Oper} {m g : Nat} {L : Array Bool → EnvF → List Own → Prop} (hdst : ∀ (i : Nat) (o : Oper), ops[i]? = some o → ∀ d, o.dst = some d → d < n) {w0 : World} {R0 R00 : RHeap} {Q' : Exit → Act → World → Prop}
    (hL : ∀ listed E W R a w, RSub R00 R → Core G w0 R0 W R w → EnvOk E R a → a.tmps.size = n → a.defers = [] → L listed E W → wpAny P md ops Q' g listed a w) : ∀ (f : Nat) (listed : Array Bool) (E : EnvF) (W : List Own) (R : RHeap) (a : Act) (w : World),
    RSub R00 R → Core G w0 R0 W R w → EnvOk E R a → a.tmps.size = n → a.defers = [] → wpAnyB P G n Inv md ops m L f listed E W → wpAny P md ops Q' (f + g) listed a w
  | 0, listed, E, W, R, a, w, h1, h2, h3, h4, h5, h => by rw [Nat.zero_add]; exact hL _ _ _ R a w h1 h2 h3 h4 h5 h
  | f + 1, listed, E, W, R, a, w, h1, h2, h3, h4, h5, h => by
    rw [show f + 1 + g = (f + g) + 1 by omega]
    refine ⟨fun h0 => absurd h0 h.1, fun i hi => ?_⟩
    have hq := (h.2 i hi).2
    unfold qB at hq
    unfold wpOp
    cases ho : ops[i]? with
    | none =>
      simp only [ho] at hq
      exact wpAny_of_B hdst hL f _ E W R a w h1 h2 h3 h4 h5 hq
    | some o =>
      simp only [ho] at hq
      have hdo : ∀ k, o.dst = some k → k < a.tmps.size := fun k e => by rw [h4]; exact hdst i o ho k e
      rcases hq with ⟨x, hx, hk⟩ | ⟨hg, α, ok, W', V, hx, _, hk⟩
      · obtain ⟨k1, k2⟩ := hx w0 R0 R a w h2 h4 fun t _ y hy => h3 t y hy
        by_cases hw : Region.wanted o (yielded ops a.tmps) = true
        · simp only [hw, if_true]
          refine .inl (Oper.wp_mono2 (fun a' w' ⟨v, R', e1, e2, e3, e4⟩ => ?_) (fun _ _ _ h => h.elim) (k1 hw))
          subst e1
          exact wpAny_of_B hdst hL f _ (updF o.dst x E) W R' _ w' (h1.trans e3) e2 (envOk_put h3 e3 hdo e4) (by rw [size_put]; exact h4) (by rw [defers_put]; exact h5) hk
        · have hwf : Region.wanted o (yielded ops a.tmps) = false := by simpa using hw
          simp only [hwf, Bool.false_eq_true, if_false]
          exact wpAny_of_B hdst hL f _ (updF o.dst x E) W R _ w h1 h2 (envOk_put h3 (RSub.refl _) hdo (k2 hwf)) (by rw [size_put]; exact h4) (by rw [defers_put]; exact h5) hk
      · have hw : Region.wanted o (yielded ops a.tmps) = true := wanted_none hg
        simp only [hw, if_true]
        refine .inl (Oper.wp_mono2 (fun a' w' ⟨x, v, R', e0, e1, e2, e3, e4⟩ => ?_) (fun _ _ _ h => h.elim) (hx w0 R0 R a w h2 h4 fun t _ y hy => h3 t y hy))
        subst e1
        exact wpAny_of_B hdst hL f _ (updF o.dst (V x) E) (W' x) R' _ w' (h1.trans e3) e2 (envOk_put h3 e3 hdo e4) (by rw [size_put]; exact h4) (by rw [defers_put]; exact h5) (hk x e0)
theorem qB_put {Inv : List Own → Prop} {ops : Array Oper} {j : Nat} {oi oj : Oper} {x : AV} {W : List Own} (hj : ops[j]? = some oj) (hap : oi.apart ops oj = true) {K : EnvF → List Own → Prop} {E : EnvF} (hW : Inv W)
    (hy : ∀ W, Inv W → OpA P G n W ops oi E x) (h : qB P G n Inv ops j K (updF oi.dst x E) W) :
    qB P G n Inv ops j (fun E' W' => (∀ W, Inv W → OpA P G n W ops oi E' x) ∧ K (updF oi.dst x E') W') E W := by
  obtain ⟨h1, h2, h3⟩ := Oper.apart_spec hap
  unfold qB at *
  simp only [hj] at *
  rcases h with ⟨y, hu, hn⟩ | ⟨hg, α, ok, W', V, hu, hi, hn⟩
  · exact .inl ⟨y, hu.unupd h1, fun W hW => (hy W hW).upd h3, by rw [updF_comm h2]; exact hn⟩
  · exact .inr ⟨hg, α, ok, W', V, hu.congr fun t ht => (updF_other fun e => h1 t e ht).symm, hi, fun a ha => ⟨fun W hW => (hy W hW).upd h3, by rw [updF_comm h2]; exact hn a ha⟩⟩
theorem wpAnyB_first {Inv : List Own → Prop} {md : Region.Mode} {ops : Array Oper} {m i : Nat} {oi : Oper} {x : AV} {L : Array Bool → EnvF → List Own → Prop} (hi : ops[i]? = some oi)
    (hs : Region.sinkB md ops m = true) (hc : Region.chainB md ops m = true) (hn : m < ops.size) (hin : i < m)
    (hdone : ∀ listed E W, L listed E W → ∀ j ∈ Region.ready md ops listed, m ≤ j) :
    ∀ (f : Nat) (listed : Array Bool) (E : EnvF) (W : List Own), HeadInv md ops m listed → Inv W →
      (∀ j oj, ops[j]? = some oj → j ≠ i → listed.getD j true = false → (∀ e ∈ oj.after, Region.binds md e = true → e.on ≠ i) → oi.apart ops oj = true) →
      i ∈ Region.ready md ops listed → (∀ W, Inv W → OpA P G n W ops oi E x) →
      wpAnyB P G n Inv md ops m L f (listed.setIfInBounds i true) (updF oi.dst x E) W → wpAnyB P G n Inv md ops m L (f + 1) listed E W := by
  have put : ∀ {K : EnvF → List Own → Prop} {E : EnvF} {W : List Own}, Inv W → (∀ W, Inv W → OpA P G n W ops oi E x) → K (updF oi.dst x E) W → qB P G n Inv ops i K E W := fun hW hy hK => by
    unfold qB
    simp only [hi]
    exact .inl ⟨x, hy _ hW, hK⟩
  intro f
  induction f with
  | zero =>
    intro listed E W inv hW _ hr hy H
    have hun := (mem_ready.1 hr).1
    refine ⟨fun h => (by rw [h] at hr; cases hr), fun j hj => ?_⟩
    have hjn : j < m := by
      rcases Nat.lt_or_ge j m with h | h
      · exact h
      · exact absurd hj (tail_waits hs hc hn inv _ i rfl hin hun j h)
    refine ⟨hjn, ?_⟩
    by_cases hji : j = i
    · subst hji; exact put hW hy H
    · have := hdone _ _ _ H j (ready_mono hj hji)
      omega
  | succ f ih =>
    intro listed E W inv hW hfree hr hy H
    have hun := (mem_ready.1 hr).1
    refine ⟨fun h => (by rw [h] at hr; cases hr), fun j hj => ?_⟩
    have hjn : j < m := by
      rcases Nat.lt_or_ge j m with h | h
      · exact h
      · exact absurd hj (tail_waits hs hc hn inv _ i rfl hin hun j h)
    refine ⟨hjn, ?_⟩
    by_cases hji : j = i
    · subst hji; exact put hW hy H
    · have h1 := (H.2 j (ready_mono hj hji)).2
      obtain ⟨hjun, oj, hoj, hall⟩ := mem_ready.1 hj
      have hnot : ∀ e ∈ oj.after, Region.binds md e = true → e.on ≠ i := fun e he hb heq => by
        have h1 := hall e he hb
        rw [heq, getD_both hun] at h1
        cases h1
      have h2 := qB_put hoj (hfree j oj hoj hji hjun hnot) hW hy h1
      have hfree' : ∀ k ok, ops[k]? = some ok → k ≠ i → (listed.setIfInBounds j true).getD k true = false →
          (∀ e ∈ ok.after, Region.binds md e = true → e.on ≠ i) → oi.apart ops ok = true := fun k ok hk hki hun hno => by
        refine hfree k ok hk hki ?_ hno
        by_cases hjk : j = k
        · subst hjk; exact hjun
        · rw [getD_set_ne true hjk] at hun; exact hun
      refine qB_mono hW (fun E' W' hW' h3 => ih (listed.setIfInBounds j true) E' W' (inv.set hj hjn) hW' hfree' (ready_mono hr (Ne.symm hji)) h3.1 ?_) h2
      rw [Array.setIfInBounds_comm _ _ hji]
      exact h3.2
/-- The order in which the region is walked: what reads, and (true) the calls with effects. -/
def ordB (md : Region.Mode) (ops : Array Oper) (g m : Nat) : List (Nat × Bool) → Array Bool → Bool
  | [], listed => Region.seqB md ops g m listed
  | (i, false) :: r, listed => (Region.ready md ops listed).contains i && Region.free md ops listed i && Nat.blt i m && ordB md ops g m r (listed.setIfInBounds i true)
  | (i, true) :: r, listed => decide (Region.ready md ops listed = [i]) && Nat.blt i m && ordB md ops g m r (listed.setIfInBounds i true)
def mixB (md : Region.Mode) (ops : Array Oper) (ord : List (Nat × Bool)) : Bool :=
  decide (ord.length < ops.size) && Region.sinkB md ops ord.length && Region.chainB md ops ord.length && ordB md ops (ops.size - ord.length) ord.length ord (Array.replicate ops.size false)
def BCh (P : Program) (G : Nat → Prop) (n : Nat) (Inv : List Own → Prop) (ops : Array Oper) : List (Nat × Bool) → List (Nat × AV) → List Own → (List (Nat × AV) → List Own → Prop) → Prop
  | [], env, W, K => K env W
  | (i, false) :: r, env, W, K => ∃ o, ops[i]? = some o ∧ ∃ x, (∀ W', Inv W' → OpA P G n W' ops o (getv · env) x) ∧ BCh P G n Inv ops r (putv o.dst x env) W K
  | (i, true) :: r, env, W, K => ∃ o, ops[i]? = some o ∧ o.guard = none ∧ ∃ (α : Type) (ok : α → Prop) (W' : α → List Own) (V : α → AV), OpE P G n W ops o (getv · env) ok W' V ∧ (∀ a, ok a → Inv (W' a)) ∧ ∀ a, ok a → BCh P G n Inv ops r (putv o.dst (V a) env) (W' a) K
theorem wpAnyB_ord {Inv : List Own → Prop} {md : Region.Mode} {ops : Array Oper} {m g : Nat} {K : List (Nat × AV) → List Own → Prop} (hs : Region.sinkB md ops m = true) (hc : Region.chainB md ops m = true) (hn : m < ops.size) :
    ∀ (l : List (Nat × Bool)) (listed : Array Bool) (env : List (Nat × AV)) (W : List Own), HeadInv md ops m listed → Inv W →
    ordB md ops g m l listed = true → BCh P G n Inv ops l env W K →
    wpAnyB P G n Inv md ops m (fun listed' E W => Region.seqB md ops g m listed' = true ∧ ∃ env', E = (getv · env') ∧ K env' W) l.length listed (getv · env) W
  | [], listed, env, W, _, _, hB, h => ⟨hB, env, rfl, h⟩
  | (i, false) :: l, listed, env, W, inv, hW, hB, h => by
    simp only [ordB, Bool.and_eq_true] at hB
    obtain ⟨⟨⟨hr, hf⟩, hlt⟩, hB'⟩ := hB
    have hkn : i < m := Nat.blt_eq.mp hlt
    have hr' : i ∈ Region.ready md ops listed := by simpa using hr
    obtain ⟨o, ho, x, hx, hK⟩ := h
    refine wpAnyB_first ho hs hc hn hkn (fun listed' E W hL => seqB_ready hL.1) l.length listed _ W inv hW (Region.free_spec ho hf) hr' hx ?_
    rw [← getv_putv]
    exact wpAnyB_ord hs hc hn l _ _ W (inv.set hr' hkn) hW hB' hK
  | (i, true) :: l, listed, env, W, inv, hW, hB, h => by
    simp only [ordB, Bool.and_eq_true, decide_eq_true_eq] at hB
    obtain ⟨⟨hr, hlt⟩, hB'⟩ := hB
    have hkn : i < m := Nat.blt_eq.mp hlt
    have hr' : i ∈ Region.ready md ops listed := by rw [hr]; simp
    obtain ⟨o, ho, hg, α, ok, W', V, h1, h2, h3⟩ := h
    refine ⟨fun h0 => (by rw [h0] at hr'; cases hr'), fun j hj => ?_⟩
    rw [hr] at hj
    have : j = i := by simpa using hj
    subst this
    refine ⟨hkn, ?_⟩
    unfold qB
    simp only [ho]
    refine .inr ⟨hg, α, ok, W', V, h1, h2, fun a ha => ?_⟩
    rw [← getv_putv]
    exact wpAnyB_ord hs hc hn l _ _ (W' a) (inv.set hr' hkn) (h2 a ha) hB' (h3 a ha)
/-- A region that draws its order, with calls that have effects; then what follows one behind the other. -/
theorem awp_region_mix {id : Nat} {l : List Oper} {Q : Exit → AState → Prop} {env : List (Nat × AV)} {own : List Own} (base : List Own) (ord : List (Nat × Bool)) (hm : P.follows .mixedOrders = true) (hB : mixB .any l.toArray ord = true) (hd : dstOk n l = true) (hb : InvX base own)
    (h : BCh P G n (InvX base) l.toArray ord env own (fun env' W => ASeq P G n l.toArray (l.drop ord.length) ⟨W, env'⟩ (Q .normal))) : AWP P G n (.region id l.toArray true) Q ⟨own, env⟩ := fun w0 R0 R a w ⟨h1, h2, h3, h4⟩ => by
  simp only [mixB, Bool.and_eq_true, decide_eq_true_eq] at hB
  obtain ⟨⟨⟨hn, hs⟩, hc⟩, hlex⟩ := hB
  have hn' : ord.length < l.length := by simpa using hn
  have hdl : (l.drop ord.length).length = l.toArray.size - ord.length := by simp
  have inv0 : HeadInv .any l.toArray ord.length (Array.replicate l.toArray.size false) :=
    ⟨by simp, fun j oj _ hl => (by rw [getD_replicate_false] at hl; cases hl), fun t _ ht => getD_in (by simpa using ht) (getD_replicate_false _ _)⟩
  have H := wpAnyB_ord (g := l.toArray.size - ord.length) hs hc hn ord _ env own inv0 hb hlex h
  refine wp_region_any hm ?_
  have := wpAny_of_B (w0 := w0) (R0 := R0) (R00 := R) (g := l.toArray.size - ord.length) (Q' := fun e a' w' => ∃ s' R', Q e s' ∧ RSub R R' ∧ St G n w0 R0 s' R' a' w') (fun i o ho d e => dstOk_spec hd i o (by simpa using ho) d e) (fun listed E W R' a' w' g1 g2 g3 g4 g5 hL => by
    obtain ⟨hL1, env', rfl, hL2⟩ := hL
    have := wpAny_of_seq (P := P) (md := .any) (Q' := fun e a' w' => ∃ s' R', Q e s' ∧ RSub R R' ∧ St G n w0 R0 s' R' a' w') (l.drop ord.length) ord.length listed a' w' (fun j => by simp [List.getElem?_drop]) (by rw [hdl]; exact hL1)
      (wpList_of_seq (R00 := R) (K := Q .normal) (fun s' R' a w q r1 r2 => ⟨s', R', q, r1, r2⟩) _ (⟨W, env'⟩ : AState) R' a' w' g1 ⟨g2, g3, g4, g5⟩ hL2)
    rwa [hdl] at this) _ _ _ own R a _ (RSub.refl _) (core_drew h1) h2 h3 h4 H
  rw [show ord.length + (l.toArray.size - ord.length) = l.toArray.size by omega] at this
  exact this
section
variable {ops : Array Oper} {i : Nat} {o : Oper} {r : List (Nat × Bool)} {env : List (Nat × AV)} {W : List Own} {base : List Own} {K : List (Nat × AV) → List Own → Prop} {d : Nat} {x : AV}
theorem bc_nil {Inv : List Own → Prop} (h : K env W) : BCh P G n Inv ops [] env W K := h
theorem bc_plain (ho : ops[i]? = some o) (hg : o.guard = none) (hd : o.dst = some d) (h : ∀ ext, OpW P G n (base ++ ext) o (getv · env) x) (k : BCh P G n (InvX base) ops r ((d, x) :: env) W K) : BCh P G n (InvX base) ops ((i, false) :: r) env W K :=
  ⟨o, ho, x, fun W' ⟨ext, e⟩ => by subst e; exact opA_plain hg (h ext), by rw [hd]; exact k⟩
theorem bc_grd {c : Bool} (ho : ops[i]? = some o) (hd : o.dst = some d) (hg : GuardIs ops o (getv · env) c) (h : c = true → ∀ ext, OpW P G n (base ++ ext) o (getv · env) x) (k : BCh P G n (InvX base) ops r ((d, AV.whn c x) :: env) W K) : BCh P G n (InvX base) ops ((i, false) :: r) env W K :=
  ⟨o, ho, _, fun W' ⟨ext, e⟩ => by subst e; exact opA_grd hg fun hc => h hc ext, by rw [hd]; exact k⟩
theorem bc_eff {Inv : List Own → Prop} {α : Type} {ok : α → Prop} {W' : α → List Own} {V : α → AV} (ho : ops[i]? = some o) (hg : o.guard = none) (hd : o.dst = some d) (h : OpE P G n W ops o (getv · env) ok W' V) (hi : ∀ a, ok a → Inv (W' a)) (k : ∀ a, ok a → BCh P G n Inv ops r ((d, V a) :: env) (W' a) K) : BCh P G n Inv ops ((i, true) :: r) env W K :=
  ⟨o, ho, hg, α, ok, W', V, h, hi, fun a ha => by rw [hd]; exact k a ha⟩
section
variable {α : Type} {ok : α → Prop} {O : α → List Own} {V : α → AV} {E : EnvF} {f : FuncId} {args : Array Operand} {tys : Array TypeId} {ps : List Operand} {xs : List AV} {sel rest : List Own}
theorem ev_lookA {p : Operand} {R : RHeap} {a : Act} (hev : Ev E p x) (hm : p ∈ o.op.operands.toList) (he : ∀ t ∈ o.looksAt ops, ∀ y, E t = some y → y.den R (a.tmps.getD t undef)) : x.den R (a.eval p) :=
  ev_use hev hm fun t ht => he t (looks_tmps ht)
/-- A call with a contract over own memory. -/
theorem opE_call (is : List Nat) (ho : o.op = .call { callee := .value (.func f), args := args, argTypes := tys })
    (hc : ∀ (vs : Array Value) (w : World), (callFunc f vs).run P w = .ok (.enter f vs) w) (hps : args.toList = ps) (hs : GSpec P f xs sel ok O V) (he : EvL E ps xs) (hp : pick W is = (sel, rest)) :
    OpE P G n W ops o E ok (fun a => rest ++ O a) V := fun w0 R0 R a w h1 h3 h2 => by
  have hcore := core_pick h1 hp
  have hden := evl_use (o := o) (fun t ht => h2 t (looks_tmps ht)) he fun p hp => by simp [ho, Op.operands, Call.operands]; right; rw [← hps] at hp; exact Array.mem_toList_iff.1 hp
  have hrun : (execOp a.eval o).run P w = .ok (.enter f (ps.map a.eval).toArray) w := by
    have hargs : args.map a.eval = (ps.map a.eval).toArray := by rw [← hps]; cases args; simp
    simp only [execOp, ho, resolve, hargs, show a.eval (.func f) = .func (.func f) #[] #[] from rfl]
    simp [Deferred.ofValue, invoke, hc]
  unfold Oper.wp
  rw [hrun, Oper.upon_enter]
  refine (hs R w _ hcore.rle hden (fun q hq => hcore.owned q (List.mem_append_left _ hq)) (core_left hcore).sep).mono fun e w' ⟨x, v, R', e0, e1, e2, e3⟩ => ?_
  subst e1
  exact ⟨x, v, R', e0, rfl, core_perm (core_after hcore e3) List.perm_append_comm, rsub_of hcore.rle e3.rold, e2⟩
/-- The same, the rest lent. -/
theorem opE_callB (is : List Nat) (ho : o.op = .call { callee := .value (.func f), args := args, argTypes := tys })
    (hc : ∀ (vs : Array Value) (w : World), (callFunc f vs).run P w = .ok (.enter f vs) w) (hps : args.toList = ps) (hs : GSpec P f xs sel ok O V) (hp : pick W is = (sel, rest)) (he : EvLB rest E ps xs) (hso : ∀ q ∈ sel, FlatO q) (hfV : ∀ a, Flat (V a)) (hfO : ∀ a, ∀ q ∈ O a, FlatO q) :
    OpE P G n W ops o E ok (fun a => rest ++ O a) V := fun w0 R0 R a w h1 h3 h2 => by
  have hcore := core_pick h1 hp
  have hcr := core_right hcore
  have hden := evlb_use (o := o) hcr (fun t ht => h2 t (looks_tmps ht)) he fun p hp => by simp [ho, Op.operands, Call.operands]; right; rw [← hps] at hp; exact Array.mem_toList_iff.1 hp
  have hrun : (execOp a.eval o).run P w = .ok (.enter f (ps.map a.eval).toArray) w := by
    have hargs : args.map a.eval = (ps.map a.eval).toArray := by rw [← hps]; cases args; simp
    simp only [execOp, ho, resolve, hargs, show a.eval (.func f) = .func (.func f) #[] #[] from rfl]
    simp [Deferred.ofValue, invoke, hc]
  unfold Oper.wp
  rw [hrun, Oper.upon_enter]
  have hlnone : ∀ q ∈ sel, ∀ b, Own.blk q = some b → lend rest w R b = none := fun q hq b hb => by
    unfold lend
    cases hob : ownB rest b with
    | true =>
      obtain ⟨x, hx, hxb⟩ := ownB_true hob
      exact absurd hxb (sep_apart hcore.sep hq hx hb)
    | false => exact (Own.ok_blk (hcore.owned q (List.mem_append_left _ hq)) hb).1
  refine (hs (lend rest w R) w _ (lend_le hcr) hden (fun q hq => ok_flat (hcore.owned q (List.mem_append_left _ hq)) (hso q hq) (hlnone q hq)) (core_left hcore).sep).mono fun e w' ⟨x, v, R', e0, e1, e2, e3⟩ => ?_
  subst e1
  have hR2 : ∀ b, b < w.heap.size → (fun b => bif ownB rest b then none else R' b) b = R b := fun b hb => by
    show (bif ownB rest b then none else R' b) = R b
    cases hob : ownB rest b with
    | true =>
      obtain ⟨y, hy, hyb⟩ := ownB_true hob
      rw [cond_true]; exact (Own.ok_blk (hcr.owned y hy) hyb).1.symm
    | false =>
      rw [cond_false, e3.rold b hb]
      unfold lend
      rw [hob, cond_false]
  have hnew : Core (blksOf sel) w R (O x) (fun b => bif ownB rest b then none else R' b) w' := by
    refine ⟨e3.os, e3.tape, e3.output, e3.size, e3.block, fun b y hy => ?_, hR2, fun q hq => ok_flat (e3.owned q hq) (hfO x q hq) fun b hb => ?_, e3.fresh, e3.sep⟩
    · cases hob : ownB rest b with
      | true => simp [hob] at hy
      | false => exact e3.rle b y (by simpa [hob] using hy)
    · show (bif ownB rest b then none else R' b) = none
      cases hob : ownB rest b with
      | true => rfl
      | false => rw [cond_false]; exact (Own.ok_blk (e3.owned q hq) hb).1
  exact ⟨x, v, _, e0, rfl, core_perm (core_after hcore hnew) List.perm_append_comm, rsub_of hcore.rle hnew.rold, hfV x _ _ v e2⟩
end
end
end
end Go.AV

set_option linter.unusedVariables false
set_option linter.unusedSimpArgs false
namespace Go.AV
open Go.RowKit (Below)
section
variable {P : Program} {G : Nat → Prop} {n : Nat} {own : List Own} {o : Oper} {E : EnvF}
theorem bytes_flat (l : List UInt8) : (l.map fun c => [AV.byte c]).flatten = l.map AV.byte := by
  induction l with
  | nil => rfl
  | cons c l ih => simp only [List.map_cons, List.flatten_cons, ih]; rfl
theorem w_convBS {src dst e : TypeId} {p : Operand} {l : List UInt8} (ho : o.op = .convert src dst p) (hs : P.underlying src = some (.slice e)) (he : P.underlying e = some (.int .u8)) (hd : P.underlying dst = some .string) (hp : Ev E p (AV.list 1 (l.map fun c => [AV.byte c]))) : OpW P G n own o E (AV.str l) := opW_val fun R a w hr hen => by
  obtain ⟨oa, c, h1, _, _, _, hc⟩ := ev_use hp (by simp [ho, Op.operands]) hen
  rw [List.length_map] at h1
  cases l with
  | nil =>
    refine ⟨.string ⟨#[]⟩, ?_, rfl⟩
    cases oa with
    | none => simp only [execOp, ho, h1, run_convert_bytes_nil w src e hs he _ _ dst hd, Sem.run_bind, Sem.run_pure, Result.andThen_ok]; rfl
    | some ad => simp only [execOp, ho, h1, run_convert_bytes_back w src dst e ad c [] hs he hd (fun j hj => by simp at hj), Sem.run_bind, Sem.run_pure, Result.andThen_ok]
  | cons b l =>
    obtain ⟨ad, rfl, hca⟩ := hc (by simp)
    rw [bytes_flat] at hca
    have := run_convert_bytes_back (P := P) w src dst e ad c (b :: l) hs he hd (fun j hj => by
      obtain ⟨u, hu, hx, _⟩ := hca j (AV.byte (b :: l)[j]) (by rw [List.getElem?_map, List.getElem?_eq_getElem hj]; rfl)
      cases (show u = _ from hx)
      exact rcell_cell hr hu)
    exact ⟨_, by simp only [execOp, ho, h1, this, Sem.run_bind, Sem.run_pure, Result.andThen_ok], rfl⟩
theorem w_convBA {src dst e t : TypeId} {p : Operand} {v : Value} {l : List UInt8} (i : Nat) (ho : o.op = .convert src dst p) (hs : P.underlying src = some (.slice e)) (he : P.underlying e = some (.int .u8)) (hd : P.underlying dst = some .string) (hp : Ev E p (AV.is v)) (hi : own[i]? = some (.arr v t 1 (l.map fun c => [AV.byte c]))) : OpW P G n own o E (AV.str l) := opW_core fun w0 R0 R a w hcr hen => by
  have h1 : a.eval p = v := ev_use hp (by simp [ho, Op.operands]) hen
  have hok := hcr.owned _ (List.mem_of_getElem? hi)
  obtain ⟨_, _, xs, hown, _⟩ := hok
  obtain ⟨oa, c, rfl, _⟩ := own_form hown
  rw [List.length_map] at *
  cases l with
  | nil =>
    refine ⟨.string ⟨#[]⟩, ?_, rfl⟩
    cases oa with
    | none => simp only [execOp, ho, h1, run_convert_bytes_nil w src e hs he _ _ dst hd, Sem.run_bind, Sem.run_pure, Result.andThen_ok]; rfl
    | some ad => simp only [execOp, ho, h1, run_convert_bytes_back w src dst e ad c [] hs he hd (fun j hj => by simp at hj), Sem.run_bind, Sem.run_pure, Result.andThen_ok]
  | cons b l =>
    have hcell : ∀ j (hj : j < (b :: l).length), ∃ g, elemPtr (.slice oa (b :: l).length c) j = .pointer (some ⟨g, j, none⟩) ∧ (Value.slice oa (b :: l).length c).ownBlock = some g ∧ w.cell? ⟨g, j, none⟩ = some (.int .u8 ((b :: l)[j].toNat : Int)) := fun j hj => by
      obtain ⟨g, u, q1, q2, q3, q4, _⟩ := own_cells (hcr.owned _ (List.mem_of_getElem? hi)) (j := j) (x := AV.byte (b :: l)[j]) (by rw [bytes_flat, List.getElem?_map, List.getElem?_eq_getElem hj]; rfl)
      cases (show u = _ from q4)
      exact ⟨g, q1, q2, q3⟩
    obtain ⟨g, q1, q2, _⟩ := hcell 0 (by simp)
    cases oa with
    | none => simp [elemPtr] at q1
    | some ad =>
      have had : ad = ⟨g, 0, none⟩ := by
        simp only [elemPtr, Value.pointer.injEq, Option.some.injEq] at q1
        rw [add_zero] at q1; exact q1
      subst had
      have := run_convert_bytes_back (P := P) w src dst e ⟨g, 0, none⟩ c (b :: l) hs he hd (fun j hj => by
        obtain ⟨g', _, q2', q3⟩ := hcell j hj
        rw [q2] at q2'; injection q2' with q2'; subst q2'
        rw [addr_add, Nat.zero_add]; exact q3)
      exact ⟨_, by simp only [execOp, ho, h1, this, Sem.run_bind, Sem.run_pure, Result.andThen_ok], rfl⟩
end
end Go.AV

set_option linter.unusedVariables false
set_option linter.unusedSimpArgs false
namespace Go.AV
open Go.RowKit (Below)
section
variable {P : Program} {G : Nat → Prop} {n : Nat} {own : List Own} {o : Oper} {E : EnvF}
theorem awp_form {c : Code} {Q : Exit → AState → Prop} {env : List (Nat × AV)} {v : Value} {e : TypeId} {sz : Nat} {es : List (List AV)} (i : Nat) (hi : own[i]? = some (.arr v e sz es)) (k1 : v = .slice none 0 0 → es = [] → AWP P G n c Q ⟨own, env⟩)
    (k2 : ∀ g cap, v = .slice (some ⟨g, 0, none⟩) es.length cap → es.length ≤ cap → cap ≤ 9223372036854775807 → AWP P G n c Q ⟨own, env⟩) : AWP P G n c Q ⟨own, env⟩ := fun w0 R0 R a w hs => by
  obtain ⟨_, _, xs, hown, _⟩ := hs.1.owned _ (List.mem_of_getElem? hi)
  rcases hown.2 with ⟨h1, h2⟩ | ⟨g, cap, cur, h1, _, _, hn, hm, _⟩
  · exact k1 h1 (List.eq_nil_of_length_eq_zero h2) w0 R0 R a w hs
  · exact k2 g cap h1 hn (by unfold maxLen at hm; omega) w0 R0 R a w hs
/-- A slice as a value. -/
abbrev slv (g len cap : Nat) : Value := .slice (some ⟨g, 0, none⟩) len cap
section vals
variable {t e : TypeId} {p q q' q'' : Operand} {g len cap sz : Nat}
theorem w_vlen {oa : Option Addr} (ho : o.op = .call { callee := .builtin .len, args := #[p], argTypes := #[t] }) (ht : P.underlying t = some (.slice e)) (hp : Ev E p (AV.is (.slice oa len cap))) : OpW P G n own o E (AV.int len) := opW_val fun R a w _ he => by
  have h1 : a.eval p = _ := ev_use hp (by simp [ho, Op.operands, Call.operands]) he
  have hel : P.elem t = e := by simp [Program.elem, ht]
  have h2 := run_len_slice (P := P) w t o.type oa len cap (by rw [hel]; exact ht)
  exact ⟨.int .i64 len, by simp only [execOp, ho, resolve, invoke, builtin, List.map_toArray, List.map_cons, List.map_nil, h1, h2, Sem.run_bind, Sem.run_pure, Result.andThen_ok, goInt], rfl⟩
theorem w_vcap {oa : Option Addr} (ho : o.op = .call { callee := .builtin .cap, args := #[p], argTypes := #[t] }) (ht : P.underlying t = some (.slice e)) (hp : Ev E p (AV.is (.slice oa len cap))) : OpW P G n own o E (AV.int cap) := opW_val fun R a w _ he => by
  have h1 : a.eval p = _ := ev_use hp (by simp [ho, Op.operands, Call.operands]) he
  have hel : P.elem t = e := by simp [Program.elem, ht]
  have h2 := run_cap_slice (P := P) w t o.type oa len cap (by rw [hel]; exact ht)
  exact ⟨.int .i64 cap, by simp only [execOp, ho, resolve, invoke, builtin, List.map_toArray, List.map_cons, List.map_nil, h1, h2, Sem.run_bind, Sem.run_pure, Result.andThen_ok, goInt], rfl⟩
theorem sliced_head (g hi cap sz : Nat) : sliced (some ⟨g, 0, none⟩) 0 hi cap sz = slv g hi cap := by
  unfold sliced
  by_cases hc : cap = 0
  · simp [hc]
  · simp [hc, Addr.add]
theorem w_vhi {hi : Int} (ho : o.op = .slice t p none (some q) none) (ht : P.underlying t = some (.slice e)) (hsz : ∀ w, (sizeOf e).run P w = .ok sz w) (hp : Ev E p (AV.is (slv g len cap))) (hq : Ev E q (AV.int hi)) (h0 : 0 ≤ hi) (h1 : hi ≤ cap) : OpW P G n own o E (AV.is (slv g hi.toNat cap)) := opW_val fun R a w _ he => by
  have e1 : a.eval p = _ := ev_use hp (by simp [ho, Op.operands]) he
  have e2 : a.eval q = .int .i64 hi := ev_use hq (by simp [ho, Op.operands]) he
  have hel : P.elem t = e := by simp [Program.elem, ht]
  have hr1 := run_slice_h (P := P) (w := w) (t := t) (a := some ⟨g, 0, none⟩) (len := len) (cap := cap) (by rw [hel]; exact ht) .i64 hi h0 h1
  rw [hel, hsz, Result.andThen_ok, sliced_head] at hr1
  exact ⟨_, by simp only [execOp, ho, e1, e2, Option.map_some, Option.map_none, run_sliceAt_slice w t _ _ _ _ (by rw [hel]; exact ht), hr1, Sem.run_bind, Sem.run_pure, Result.andThen_ok], rfl⟩
theorem w_vlo {lo : Int} (ho : o.op = .slice t p (some q) none none) (ht : P.underlying t = some (.slice e)) (hsz : ∀ w, (sizeOf e).run P w = .ok sz w) (hp : Ev E p (AV.is (slv g len cap))) (hq : Ev E q (AV.int lo)) (h0 : 0 ≤ lo) (h1 : lo ≤ len) : OpW P G n own o E (AV.is (sliced (some ⟨g, 0, none⟩) lo.toNat len cap sz)) := opW_val fun R a w _ he => by
  have e1 : a.eval p = _ := ev_use hp (by simp [ho, Op.operands]) he
  have e2 : a.eval q = .int .i64 lo := ev_use hq (by simp [ho, Op.operands]) he
  have hel : P.elem t = e := by simp [Program.elem, ht]
  have hr1 := run_slice_l (P := P) (w := w) (t := t) (a := some ⟨g, 0, none⟩) (len := len) (cap := cap) (by rw [hel]; exact ht) .i64 lo h0 h1
  rw [hel, hsz, Result.andThen_ok] at hr1
  exact ⟨_, by simp only [execOp, ho, e1, e2, Option.map_some, Option.map_none, run_sliceAt_slice w t _ _ _ _ (by rw [hel]; exact ht), hr1, Sem.run_bind, Sem.run_pure, Result.andThen_ok], rfl⟩
theorem w_vlohi {lo hi : Int} (ho : o.op = .slice t p (some q) (some q') none) (ht : P.underlying t = some (.slice e)) (hsz : ∀ w, (sizeOf e).run P w = .ok sz w) (hp : Ev E p (AV.is (slv g len cap))) (hq : Ev E q (AV.int lo)) (hq' : Ev E q' (AV.int hi)) (h0 : 0 ≤ lo) (h1 : lo ≤ hi) (h2 : hi ≤ cap) : OpW P G n own o E (AV.is (sliced (some ⟨g, 0, none⟩) lo.toNat hi.toNat cap sz)) := opW_val fun R a w _ he => by
  have e1 : a.eval p = _ := ev_use hp (by simp [ho, Op.operands]) he
  have e2 : a.eval q = .int .i64 lo := ev_use hq (by simp [ho, Op.operands]) he
  have e3 : a.eval q' = .int .i64 hi := ev_use hq' (by simp [ho, Op.operands]) he
  have hel : P.elem t = e := by simp [Program.elem, ht]
  have hr1 := run_slice_lh (P := P) (w := w) (t := t) (a := some ⟨g, 0, none⟩) (len := len) (cap := cap) (by rw [hel]; exact ht) .i64 .i64 lo hi h0 h1 h2
  rw [hel, hsz, Result.andThen_ok] at hr1
  exact ⟨_, by simp only [execOp, ho, e1, e2, e3, Option.map_some, Option.map_none, run_sliceAt_slice w t _ _ _ _ (by rw [hel]; exact ht), hr1, Sem.run_bind, Sem.run_pure, Result.andThen_ok], rfl⟩
/-- s[i:j:k], of which nothing is used. -/
theorem w_v3 {oa : Option Addr} {lo hi mx : Int} (ho : o.op = .slice t p (some q) (some q') (some q'')) (ht : P.underlying t = some (.slice e)) (hsz : ∀ w, (sizeOf e).run P w = .ok sz w) (hp : Ev E p (AV.is (.slice oa len cap))) (hq : Ev E q (AV.int lo)) (hq' : Ev E q' (AV.int hi)) (hq'' : Ev E q'' (AV.int mx)) (h0 : 0 ≤ lo) (h1 : lo ≤ hi) (h2 : hi ≤ mx) (h3 : mx ≤ cap) : OpW P G n own o E AV.any := opW_val fun R a w _ he => by
  have e1 : a.eval p = _ := ev_use hp (by simp [ho, Op.operands]) he
  have e2 : a.eval q = .int .i64 lo := ev_use hq (by simp [ho, Op.operands]) he
  have e3 : a.eval q' = .int .i64 hi := ev_use hq' (by simp [ho, Op.operands]) he
  have e4 : a.eval q'' = .int .i64 mx := ev_use hq'' (by simp [ho, Op.operands]) he
  have hel : P.elem t = e := by simp [Program.elem, ht]
  have hb : (Instr.sliceBounds true len cap (some (.int .i64 lo)) (some (.int .i64 hi)) (some (.int .i64 mx))).run P w = .ok (lo.toNat, hi.toNat, mx.toNat) w := by
    have g1 : (hi.toNat : Int) = hi := Int.toNat_of_nonneg (by omega)
    have g2 : (mx.toNat : Int) = mx := Int.toNat_of_nonneg (by omega)
    simp [Instr.sliceBounds, run_sliceBound, *, (by omega : 0 ≤ hi), (by omega : 0 ≤ mx)]
  have hr1 := run_slice_any (P := P) (w := w) (t := t) (a := oa) (len := len) (cap := cap) (by rw [hel]; exact ht) (some (.int .i64 lo)) (some (.int .i64 hi)) (some (.int .i64 mx))
  rw [hb, Result.andThen_ok, hel, hsz, Result.andThen_ok] at hr1
  dsimp only at hr1
  exact ⟨sliced oa lo.toNat hi.toNat mx.toNat sz, by simp only [execOp, ho, e1, e2, e3, e4, Option.map_some, Option.map_none, run_sliceAt_slice w t _ _ _ _ (by rw [hel]; exact ht), hr1, Sem.run_bind, Sem.run_pure, Result.andThen_ok], trivial⟩
end vals

/-! ### copy -/
theorem run_copy_rowN (w : World) (dT sT ty elem : TypeId) {inf : TypeInfo} (g o dLen dCap : Nat) (a : Addr) (sLen sCap : Nat) (cur : Array Value) (t : TypeId) (cs : List Value)
    (hu : P.underlying dT = some (.slice elem)) (hi : P.info? elem = some inf)
    (hg : w.heap[g]? = some (.cells cur t (0, 0))) (hn : cs.length = Nat.min sLen dLen * inf.size)
    (hsrc : ∀ j v, cs[j]? = some v → w.cell? (a.add j) = some v) (hfit : o + cs.length ≤ cur.size) (h1 : ∀ v ∈ cs, v.oneCell' = true) :
    (Builtin.copy_ #[dT, sT] ty #[.slice (some ⟨g, o, none⟩) dLen dCap, .slice (some a) sLen sCap]).run P w =
      .ok (goInt (Nat.min sLen dLen)) (w.setRow g (cur.toList.take o ++ cs ++ cur.toList.drop (o + cs.length)).toArray) := by
  have hl := run_loadCells_list (P := P) w a cs hsrc
  have hst := run_storeCells_at P g o t cs 0 cur w hg (by simpa using hfit) h1
  simp [Builtin.copy_, run_underlying hu, Builtin.lenOf, Builtin.firstCells, sizeOf, typeInfo, hi, ← hn, hl, hst]
/-- What a copy reads: these elements. -/
def SrcIs (own : List Own) (E : EnvF) (q : Operand) (sz : Nat) (fs : List (List AV)) : Prop :=
  ∀ (G : Nat → Prop) (w0 : World) (R0 R : RHeap) (a : Act) (w : World), Core G w0 R0 own R w → (∀ t, q = .tmp t → ∀ y, E t = some y → y.den R (a.tmps.getD t undef)) →
    (∀ f ∈ fs, f.length = sz) ∧ (fs ≠ [] → ∃ ad cap vs, a.eval q = .slice (some ad) fs.length cap ∧ (∀ j u, vs[j]? = some u → w.cell? (ad.add j) = some u) ∧ DenC R vs fs.flatten)
theorem src_list {q : Operand} {sz : Nat} {fs : List (List AV)} (hq : Ev E q (AV.list sz fs)) : SrcIs own E q sz fs := fun G w0 R0 R a w hc he => by
  obtain ⟨oa, c, e2, _, _, hu, hcell⟩ := hq R a he
  refine ⟨hu, fun hne => ?_⟩
  obtain ⟨ad, rfl, hca⟩ := hcell hne
  obtain ⟨vs, _, h2, h3⟩ := list_cells (sz := sz) hc.rle hca
  exact ⟨ad, c, vs, e2, h2, h3⟩
theorem own_vals {R : RHeap} {w : World} {g len cap : Nat} {e : TypeId} {sz : Nat} {es : List (List AV)} (h : Own.ok R w (.arr (slv g len cap) e sz es)) : len = es.length ∧ len ≤ cap ∧ cap ≤ maxLen ∧ (∀ x ∈ es, x.length = sz) ∧ ∃ (cur : Array Value) (xs : List Value), w.heap[g]? = some (.cells cur e (0, 0)) ∧ cur.size = cap * sz ∧ cur.toList.take (len * sz) = xs ∧ xs.length = len * sz ∧ DenC R xs es.flatten := by
  obtain ⟨_, hu, xs, hown, hd⟩ := h
  rcases hown.2 with ⟨h1, _⟩ | ⟨g', cap', cur, h1, _, hg, hn, hm, hcs, htake⟩
  · cases h1
  · injection h1 with e1 e2 e3
    injection e1 with e1
    injection e1 with e1
    subst e1; subst e2; subst e3
    exact ⟨rfl, hn, hm, hu, cur, xs, hg, hcs, htake, hown.1, hd⟩
theorem src_own {q : Operand} {g len cap k : Nat} {e : TypeId} {sz : Nat} {es : List (List AV)} (i : Nat) (hi : own[i]? = some (.arr (slv g len cap) e sz es)) (hq : Ev E q (AV.is (sliced (some ⟨g, 0, none⟩) k len cap sz))) : SrcIs own E q sz (es.drop k) := fun G w0 R0 R a w hc he => by
  have e1 : a.eval q = _ := hq R a he
  obtain ⟨hl, hlc, _, hu, cur, xs, hg, hcs, htake, hxl, hd⟩ := own_vals (hc.owned _ (List.mem_of_getElem? hi))
  refine ⟨fun f hf => hu f (List.mem_of_mem_drop hf), fun hne => ?_⟩
  have hk : k < es.length := by
    rcases Nat.lt_or_ge k es.length with h | h
    · exact h
    · exact absurd (List.drop_eq_nil_of_le h) hne
  have hmul : k * sz ≤ len * sz := Nat.mul_le_mul_right sz (by omega)
  refine ⟨⟨g, k * sz, none⟩, cap - k, xs.drop (k * sz), ?_, fun j u hu' => ?_, ?_⟩
  · rw [e1]; unfold sliced
    rw [if_neg (by omega), Option.map_some, addr_add, Nat.zero_add, List.length_drop, hl]
  · rw [List.getElem?_drop] at hu'
    have hjl : k * sz + j < len * sz := by rw [← hxl]; exact (List.getElem?_eq_some_iff.1 hu').1
    rw [addr_add]
    rw [← htake, List.getElem?_take_of_lt hjl, Array.getElem?_toList] at hu'
    simp [World.cell?, hg, hu']
  · rw [flatten_drop k hu]
    exact ⟨by simp [hd.1], fun j v x hv hx => hd.2 _ v x (by rw [List.getElem?_drop] at hv; exact hv) (by rw [List.getElem?_drop] at hx; exact hx)⟩
theorem src_own0 {q : Operand} {g len cap : Nat} {e : TypeId} {sz : Nat} {es : List (List AV)} (i : Nat) (hi : own[i]? = some (.arr (slv g len cap) e sz es)) (hq : Ev E q (AV.is (slv g len cap))) : SrcIs own E q sz es := by
  have := src_own (k := 0) i hi (by rw [sliced_head]; exact hq)
  rwa [List.drop_zero] at this
theorem sliced_tail {g k m cap sz : Nat} (h : k < m) (hc : m ≤ cap) : sliced (some ⟨g, 0, none⟩) k m cap sz = .slice (some ⟨g, k * sz, none⟩) (m - k) (cap - k) := by
  unfold sliced
  rw [if_neg (by omega), Option.map_some, addr_add, Nat.zero_add]
theorem flat_splice3 {sz k : Nat} {es fs : List (List AV)} (hu : ∀ e ∈ es, e.length = sz) (hf : ∀ f ∈ fs, f.length = sz) : (es.take k ++ fs ++ es.drop (k + fs.length)).flatten = splice es.flatten (k * sz) fs.flatten := by
  rw [List.flatten_append, List.flatten_append, flatten_take k hu, flatten_drop (k + fs.length) hu]
  unfold splice
  rw [flatten_len hf, Nat.add_mul]
/-- copy into the elements from k on. -/
theorem sq_copy {ops : Array Oper} {rest : List Oper} {env : List (Nat × AV)} {K : AState → Prop} {t e : TypeId} {p q : Operand} {d sz g len cap k m : Nat} {inf : TypeInfo} {es fs : List (List AV)} (i : Nat) (hg : o.guard = none) (ho : o.op = .call { callee := .builtin .copy, args := #[p, q], argTypes := #[t, t] }) (hd : o.dst = some d) (hn : Nat.blt d n = true)
    (ht : P.underlying t = some (.slice e)) (hinf : P.info? e = some inf) (hsz : inf.size = sz) (hp : Ev (getv · env) p (AV.is (sliced (some ⟨g, 0, none⟩) k m cap sz))) (hq : SrcIs own (getv · env) q sz fs) (hi : own[i]? = some (.arr (slv g len cap) e sz es))
    (hk : k + fs.length ≤ len) (hm : k + fs.length ≤ m) (hmc : m ≤ cap) (hne : fs ≠ []) (c : ASeq P G n ops rest ⟨own.set i (.arr (slv g len cap) e sz (es.take k ++ fs ++ es.drop (k + fs.length))), (d, AV.int fs.length) :: env⟩ K) : ASeq P G n ops (o :: rest) ⟨own, env⟩ K :=
  opS_run hg fun w0 R0 R a w ⟨h1, h2, h3, h4⟩ => by
    have e1 : a.eval p = _ := ev_st (s := ⟨own, env⟩) (o := o) hp h2
    obtain ⟨hfu, hsrc⟩ := hq G w0 R0 R a w h1 (fun t _ y hy => h2 t y hy)
    obtain ⟨ad, sc, vs, e2, hcell, hden⟩ := hsrc hne
    have hpos : 0 < fs.length := List.length_pos_iff.2 hne
    have hok := h1.owned _ (List.mem_of_getElem? hi)
    obtain ⟨hl, hlc, hcm, hu, cur, xs, hgw, hcs, htake, hxl, hdc⟩ := own_vals hok
    rw [sliced_tail (by omega) hmc] at e1
    have hvl : vs.length = fs.length * sz := by rw [hden.1, flatten_len hfu]
    have hmin : Nat.min fs.length (m - k) = fs.length := Nat.min_eq_left (by omega)
    have hone : ∀ u ∈ vs, u.oneCell' = true := fun u hmu => by
      obtain ⟨j, hj⟩ := List.getElem?_of_mem hmu
      have hjl : j < fs.flatten.length := by rw [← hden.1]; exact (List.getElem?_eq_some_iff.1 hj).1
      exact (hden.2 j u _ hj (List.getElem?_eq_getElem hjl)).2
    have hb1 : k * sz + fs.length * sz ≤ len * sz := by rw [← Nat.add_mul]; exact Nat.mul_le_mul_right sz hk
    have hb2 : len * sz ≤ cap * sz := Nat.mul_le_mul_right sz hlc
    have hr := run_copy_rowN (P := P) w t t o.type e g (k * sz) (m - k) (cap - k) ad fs.length sc cur e vs ht hinf hgw (by rw [hmin, hsz]; exact hvl) hcell (by rw [hvl, hcs]; omega) hone
    rw [hmin] at hr
    have hex : (execOp a.eval o).run P w = .ok (.value (.int .i64 fs.length)) (w.setRow g (cur.toList.take (k * sz) ++ vs ++ cur.toList.drop (k * sz + vs.length)).toArray) := by
      simp only [execOp, ho, resolve, invoke, builtin, Sem.run_bind, Sem.run_pure, Result.andThen_ok, List.map_toArray, List.map_cons, List.map_nil, e1, e2, hr, goInt]
    unfold Oper.wp
    rw [hex, Oper.upon_value, hd]
    have hel : (es.take k ++ fs ++ es.drop (k + fs.length)).length = len := by simp; omega
    refine ⟨_, R, c, RSub.refl _, core_set h1 hi rfl rfl ⟨hok.1, fun z hz => ?_, xs.take (k * sz) ++ vs ++ xs.drop (k * sz + vs.length), ⟨?_, .inr ⟨g, cap, _, by rw [hel], Nat.zero_le _, setRow_heap w g _ _ e _ hgw, by rw [hel]; exact hlc, hcm, ?_, ?_⟩⟩, ?_⟩ (setRow_grown w g _), env_put h2 (RSub.refl _) (by rw [h3]; exact Nat.blt_eq.mp hn) rfl, by rw [size_put]; exact h3, by rw [defers_put]; exact h4⟩
    · rcases List.mem_append.1 hz with hz | hz
      · rcases List.mem_append.1 hz with hz | hz
        · exact hu z (List.mem_of_mem_take hz)
        · exact hfu z hz
      · exact hu z (List.mem_of_mem_drop hz)
    · rw [hel]; simp only [List.length_append, List.length_take, List.length_drop, hxl, hvl]; omega
    · simp only [List.size_toArray, List.length_append, List.length_take, List.length_drop, Array.length_toList, hvl, hcs]; omega
    · rw [hel, ← htake]
      exact take_splice (by rw [Array.length_toList, hcs]; exact hb2) (by rw [hvl]; exact hb1)
    · rw [flat_splice3 hu hfu]
      exact denC_splice hdc hden (by rw [flatten_len hu, flatten_len hfu, ← hl]; exact hb1)
/-- copy of the elements from k on, one place further: the row grows by one within its capacity. -/
theorem sq_shift {ops : Array Oper} {rest : List Oper} {env : List (Nat × AV)} {K : AState → Prop} {t e : TypeId} {p q : Operand} {d sz g len cap k : Nat} {inf : TypeInfo} {es : List (List AV)} (i : Nat) (hg : o.guard = none) (ho : o.op = .call { callee := .builtin .copy, args := #[p, q], argTypes := #[t, t] }) (hd : o.dst = some d) (hn : Nat.blt d n = true)
    (ht : P.underlying t = some (.slice e)) (hinf : P.info? e = some inf) (hsz : inf.size = sz) (hp : Ev (getv · env) p (AV.is (sliced (some ⟨g, 0, none⟩) (k + 1) (len + 1) cap sz))) (hq : Ev (getv · env) q (AV.is (sliced (some ⟨g, 0, none⟩) k (len + 1) cap sz))) (hi : own[i]? = some (.arr (slv g len cap) e sz es))
    (hk : k < len) (hc : len + 1 ≤ cap) (c : ∀ j, ASeq P G n ops rest ⟨own.set i (.arr (slv g (len + 1) cap) e sz (es.take (k + 1) ++ es.drop k)), (d, AV.int j) :: env⟩ K) : ASeq P G n ops (o :: rest) ⟨own, env⟩ K :=
  opS_run hg fun w0 R0 R a w ⟨h1, h2, h3, h4⟩ => by
    have e1 : a.eval p = _ := ev_st (s := ⟨own, env⟩) (o := o) hp h2
    have e2 : a.eval q = _ := ev_st (s := ⟨own, env⟩) (o := o) hq h2
    have hok := h1.owned _ (List.mem_of_getElem? hi)
    obtain ⟨hl, hlc, hcm, hu, cur, xs, hgw, hcs, htake, hxl, hdc⟩ := own_vals hok
    rw [sliced_tail (by omega) hc] at e1 e2
    have hmin : Nat.min (len + 1 - k) (len + 1 - (k + 1)) = len - k := by
      show min (len + 1 - k) (len + 1 - (k + 1)) = len - k
      omega
    have hb0 : k * sz ≤ len * sz := Nat.mul_le_mul_right sz (by omega)
    have hb1 : (k + 1) * sz + (len - k) * sz = (len + 1) * sz := by rw [← Nat.add_mul]; congr 1; omega
    have hb2 : (len + 1) * sz ≤ cap * sz := Nat.mul_le_mul_right sz hc
    have hb3 : (k + 1) * sz ≤ len * sz := Nat.mul_le_mul_right sz (by omega)
    have hb4 : len * sz ≤ cap * sz := Nat.mul_le_mul_right sz hlc
    have hvl : (xs.drop (k * sz)).length = (len - k) * sz := by rw [List.length_drop, hxl, Nat.sub_mul]
    have hone : ∀ u ∈ xs.drop (k * sz), u.oneCell' = true := fun u hmu => by
      obtain ⟨j, hj⟩ := List.getElem?_of_mem (List.mem_of_mem_drop hmu)
      have hjl : j < es.flatten.length := by rw [← hdc.1]; exact (List.getElem?_eq_some_iff.1 hj).1
      exact (hdc.2 j u _ hj (List.getElem?_eq_getElem hjl)).2
    have hcell : ∀ j u, (xs.drop (k * sz))[j]? = some u → w.cell? ((⟨g, k * sz, none⟩ : Addr).add j) = some u := fun j u hu' => by
      rw [List.getElem?_drop] at hu'
      have hjl : k * sz + j < len * sz := by rw [← hxl]; exact (List.getElem?_eq_some_iff.1 hu').1
      rw [addr_add]
      rw [← htake, List.getElem?_take_of_lt hjl, Array.getElem?_toList] at hu'
      simp [World.cell?, hgw, hu']
    have hr := run_copy_rowN (P := P) w t t o.type e g ((k + 1) * sz) (len + 1 - (k + 1)) (cap - (k + 1)) ⟨g, k * sz, none⟩ (len + 1 - k) (cap - k) cur e (xs.drop (k * sz)) ht hinf hgw (by rw [hmin, hsz]; exact hvl) hcell (by rw [hvl, hcs]; omega) hone
    rw [hmin] at hr
    have hex : (execOp a.eval o).run P w = .ok (.value (.int .i64 ((len - k : Nat) : Int))) (w.setRow g (cur.toList.take ((k + 1) * sz) ++ xs.drop (k * sz) ++ cur.toList.drop ((k + 1) * sz + (xs.drop (k * sz)).length)).toArray) := by
      simp only [execOp, ho, resolve, invoke, builtin, Sem.run_bind, Sem.run_pure, Result.andThen_ok, List.map_toArray, List.map_cons, List.map_nil, e1, e2, hr, goInt]
    unfold Oper.wp
    rw [hex, Oper.upon_value, hd]
    have hel : (es.take (k + 1) ++ es.drop k).length = len + 1 := by simp; omega
    refine ⟨_, R, c _, RSub.refl _, core_set h1 hi rfl rfl ⟨hok.1, fun z hz => ?_, xs.take ((k + 1) * sz) ++ xs.drop (k * sz), ⟨?_, .inr ⟨g, cap, _, by rw [hel], Nat.zero_le _, setRow_heap w g _ _ e _ hgw, by rw [hel]; exact hc, hcm, ?_, ?_⟩⟩, ?_⟩ (setRow_grown w g _), env_put h2 (RSub.refl _) (by rw [h3]; exact Nat.blt_eq.mp hn) rfl, by rw [size_put]; exact h3, by rw [defers_put]; exact h4⟩
    · rcases List.mem_append.1 hz with hz | hz
      · exact hu z (List.mem_of_mem_take hz)
      · exact hu z (List.mem_of_mem_drop hz)
    · rw [hel, List.length_append, hvl, List.length_take, hxl]; omega
    · simp only [List.size_toArray, List.length_append, List.length_take, List.length_drop, Array.length_toList, hcs, hxl]
      have : len * sz - k * sz = (len - k) * sz := (Nat.sub_mul _ _ _).symm
      omega
    · rw [hel]
      show List.take ((len + 1) * sz) (cur.toList.take ((k + 1) * sz) ++ xs.drop (k * sz) ++ cur.toList.drop ((k + 1) * sz + (xs.drop (k * sz)).length)) = _
      have hl2 : (cur.toList.take ((k + 1) * sz) ++ xs.drop (k * sz)).length = (len + 1) * sz := by rw [List.length_append, hvl, List.length_take, Array.length_toList, hcs]; omega
      rw [← hl2, List.take_left', ← htake, List.take_take, Nat.min_eq_left hb3]
      rfl
    · rw [List.flatten_append, flatten_take (k + 1) hu, flatten_drop k hu]
      refine denC_append' ⟨by simp [hdc.1], fun j u x hu' hx => ?_⟩ ⟨by simp [hdc.1], fun j u x hu' hx => ?_⟩
      · by_cases hj : j < (k + 1) * sz
        · rw [List.getElem?_take_of_lt hj] at hu' hx; exact hdc.2 j u x hu' hx
        · rw [List.getElem?_eq_none (by simp; omega)] at hu'; cases hu'
      · rw [List.getElem?_drop] at hu' hx; exact hdc.2 _ u x hu' hx
theorem zero_den {R : RHeap} {z : Value} {sz : Nat} (hzs : z.cells.size = sz) (h1z : z.cells.toList.all Value.oneCell' = true) (hpos : 0 < sz) (m : Nat) : DenC R (Builtin.zeroCells z.cells m).toList (List.replicate m (z.cells.toList.map zeroA)).flatten := by
  have hlz := zeroCells_list z sz hzs m
  have hu : ∀ e ∈ List.replicate m (z.cells.toList.map zeroA), e.length = sz := fun e he => by rw [(List.mem_replicate.1 he).2]; simp [hzs]
  refine ⟨by rw [hlz.1, flatten_len hu]; simp, fun j u x hu' hx => ?_⟩
  have hjl : j < m * sz := by rw [← hlz.1]; exact (List.getElem?_eq_some_iff.1 hu').1
  have hjm : j % sz < sz := Nat.mod_lt _ hpos
  have hjd : j / sz < m := Nat.div_lt_of_lt_mul (by rw [Nat.mul_comm]; exact hjl)
  have hjj : j / sz * sz + j % sz = j := by rw [Nat.mul_comm]; exact Nat.div_add_mod j sz
  have hzj : z.cells.toList[j % sz]? = some (z.cells.toList[j % sz]'(by simp [hzs]; exact hjm)) := List.getElem?_eq_getElem _
  have hx2 := flatten_get hu (i := j / sz) (e := z.cells.toList.map zeroA) (by rw [List.getElem?_replicate, if_pos hjd]) (k := j % sz) (x := zeroA (z.cells.toList[j % sz]'(by simp [hzs]; exact hjm))) (by rw [List.getElem?_map, hzj]; rfl)
  rw [hjj, hx] at hx2
  injection hx2 with hx2
  have hu2 : u = z.cells.toList[j % sz]'(by simp [hzs]; exact hjm) := by
    rw [hlz.2 j u hu', getElem!_pos z.cells _ (by rw [hzs]; exact hjm)]; simp
  rw [hx2, hu2]
  exact ⟨zeroA_den R _, List.all_eq_true.1 h1z _ (by simp)⟩
/-- append(s[:j], make([]T, m)...) where no room is: a new row. -/
theorem sq_appendZ {ops : Array Oper} {rest : List Oper} {env : List (Nat × AV)} {K : AState → Prop} {t tn e : TypeId} {p q : Operand} {kn : IntKind} {d sz by' g len cap j m : Nat} {inf : TypeInfo} {z : Value} {es : List (List AV)} (i : Nat) (hg : o.guard = none) (ho : o.op = .call { callee := .builtin .append, args := #[p, q], argTypes := #[t, tn] }) (hd : o.dst = some d) (hn : Nat.blt d n = true)
    (ht : P.underlying t = some (.slice e)) (htn : P.underlying tn = some (.int kn)) (hinf : P.info? e = some inf) (hz : inf.zero = some z) (hsz : inf.size = sz) (hby : inf.bytes = by') (hzs : z.cells.size = sz) (hpos' : Nat.ble 1 sz = true) (h1z : z.cells.toList.all Value.oneCell' = true) (hp : Ev (getv · env) p (AV.is (slv g j cap))) (hq : Ev (getv · env) q (AV.int m)) (hi : own[i]? = some (.arr (slv g len cap) e sz es))
    (hj : j ≤ len) (hm : 0 < m) (hc : cap < j + m) (hlen : (j + m) * by' ≤ 140737488355328) (hlen2 : j + m ≤ 9223372036854775807) (k : ∀ g' cap', j + m ≤ cap' → ASeq P G n ops rest ⟨.arr (slv g' (j + m) cap') e sz (es.take j ++ List.replicate m (z.cells.toList.map zeroA)) :: own, (d, AV.is (slv g' (j + m) cap')) :: env⟩ K) : ASeq P G n ops (o :: rest) ⟨own, env⟩ K :=
  opS_run hg fun w0 R0 R a w ⟨h1, h2, h3, h4⟩ => by
    have hpos := Nat.le_of_ble_eq_true hpos'
    have e1 : a.eval p = _ := ev_st (s := ⟨own, env⟩) (o := o) hp h2
    have e2 : a.eval q = .int .i64 m := ev_st (s := ⟨own, env⟩) (o := o) hq h2
    obtain ⟨hl, hlc, hcm, hu, cur, xs, hgw, hcs, htake, hxl, hdc⟩ := own_vals (h1.owned _ (List.mem_of_getElem? hi))
    have hb1 : j * sz ≤ len * sz := Nat.mul_le_mul_right sz hj
    have hb2 : len * sz ≤ cap * sz := Nat.mul_le_mul_right sz hlc
    have hold : (Builtin.firstCells inf.size j (slv g j cap)).run P w.drew = .ok (xs.take (j * sz)).toArray w.drew := by
      have := run_loadCells_list (P := P) w.drew ⟨g, 0, none⟩ (xs.take (j * sz)) (fun i u hu' => by
        have hil : i < j * sz := by have := (List.getElem?_eq_some_iff.1 hu').1; rw [List.length_take] at this; omega
        rw [List.getElem?_take_of_lt hil, ← htake, List.getElem?_take_of_lt (by omega), Array.getElem?_toList] at hu'
        rw [addr_add, Nat.zero_add]
        show w.cell? _ = _
        simp [World.cell?, hgw, hu'])
      rw [List.length_take, hxl, Nat.min_eq_left hb1] at this
      simpa [Builtin.firstCells, hsz] using this
    have hr := Lib.run_append_grow_zeros (P := P) w t tn o.type e inf z .i64 kn ht htn hinf hz (some ⟨g, 0, none⟩) j cap _ hold m hm (by omega) hc (by omega) (by
      have : m * by' ≤ (j + m) * by' := Nat.mul_le_mul_right _ (by omega)
      rw [hby]; omega) (by rw [hby]; exact growslice_fits hc hlen)
    have hex : (execOp a.eval o).run P w = .ok (.value (slv w.heap.size (j + m) (grownCap w (j + m) cap e))) (w.drew.alloc (.cells ((xs.take (j * sz)).toArray ++ Builtin.zeroCells z.cells m ++ Builtin.zeroCells z.cells (grownCap w (j + m) cap e - (j + m))) e)) := by
      simp only [execOp, ho, resolve, invoke, builtin, Sem.run_bind, Sem.run_pure, Result.andThen_ok, List.map_toArray, List.map_cons, List.map_nil, e1, e2, hr]
    unfold Oper.wp
    rw [hex, Oper.upon_value, hd]
    have hge := grownCap_ge w (j + m) cap e
    have hcm2 : grownCap w (j + m) cap e ≤ maxLen := grownCap_le_maxLen w (j + m) cap e (by unfold maxLen; omega)
    have hl1 : (xs.take (j * sz)).length = j * sz := by rw [List.length_take, hxl]; omega
    refine ⟨_, R, k _ _ hge, RSub.refl _, core_arr_new (sz := sz) (m := j + m) (cap := grownCap w (j + m) cap e) (core_drew h1) (by simp; omega) hge hcm2 ?_ (fun x hx => ?_) ?_, env_put h2 (RSub.refl _) (by rw [h3]; exact Nat.blt_eq.mp hn) rfl, by rw [size_put]; exact h3, by rw [defers_put]; exact h4⟩
    · simp only [Array.size_append, List.size_toArray, size_zeroCells, hl1, hzs, ← Nat.add_mul]
      congr 1; omega
    · rcases List.mem_append.1 hx with hx | hx
      · exact hu x (List.mem_of_mem_take hx)
      · rw [(List.mem_replicate.1 hx).2]; simp [hzs]
    · have hsz3 : ((xs.take (j * sz)).toArray ++ Builtin.zeroCells z.cells m).toList.length = (j + m) * sz := by simp only [Array.length_toList, Array.size_append, List.size_toArray, size_zeroCells, hl1, hzs, Nat.add_mul]
      rw [Array.toList_append, List.take_left' hsz3, Array.toList_append, List.flatten_append]
      refine denC_append' ?_ (zero_den hzs h1z (by omega) m)
      rw [flatten_take j hu]
      exact ⟨by simp [hdc.1], fun i u x hu' hx => by
        by_cases hij : i < j * sz
        · simp only [List.getElem?_take_of_lt hij] at hu' hx; exact hdc.2 i u x hu' hx
        · rw [List.getElem?_eq_none (by simp; omega)] at hu'; cases hu'⟩
/-- Two rows of the call's own do not overlap. -/
theorem w_overlapsF {f : FuncId} {fn : Func} {t e tb : TypeId} {p q : Operand} {tys : Array TypeId} {gv cv g len cap k m sz : Nat} {lv : Nat} {es vs : List (List AV)} (iv i : Nat) (ho : o.op = .call { callee := .value (.func f), args := #[p, q], argTypes := tys }) (hf : P.funcs[f]? = some fn) (hname : (fn.name == "runtime.NumGoroutine") = false) (hb : fn.body.isNone = true) (hnx : Extern.findNext fn = none) (he : Extern.find fn = some (Extern.SlicesOverlaps.overlaps #[t, t] #[tb]))
    (ht : P.underlying t = some (.slice e)) (hsz : ∀ w, (sizeOf e).run P w = .ok sz w) (hp : Ev E p (AV.is (slv gv lv cv))) (hq : Ev E q (AV.is (sliced (some ⟨g, 0, none⟩) k m cap sz))) (hiv : own[iv]? = some (.arr (slv gv lv cv) e sz vs)) (hi : own[i]? = some (.arr (slv g len cap) e sz es)) (hne : Nat.beq iv i = false) (hcap : 0 < cap) (hpos : Nat.ble 1 sz = true) :
    OpW P G n own o E (AV.bool false) := opW_core fun w0 R0 R a w hcr hen => by
  have e1 : a.eval p = _ := ev_use hp (by simp [ho, Op.operands, Call.operands]) hen
  have e2 : a.eval q = _ := ev_use hq (by simp [ho, Op.operands, Call.operands]) hen
  have hb1 := Nat.le_of_ble_eq_true hpos
  have hij : iv ≠ i := fun h => by rw [h, Nat.beq_refl] at hne; cases hne
  obtain ⟨_, _, _, _, curv, xsv, hgv, hcv, _⟩ := own_vals (hcr.owned _ (List.mem_of_getElem? hiv))
  obtain ⟨_, _, _, _, cur, xs, hg, hcs, _⟩ := own_vals (hcr.owned _ (List.mem_of_getElem? hi))
  have hgne : gv ≠ g := fun h => sep_get hcr.sep hiv hi hij (b := gv) rfl (by rw [h]; rfl)
  obtain ⟨ad, lb, cb, hsl, hadb⟩ : ∃ ad lb cb, sliced (some ⟨g, 0, none⟩) k m cap sz = .slice (some ad) lb cb ∧ ad.block = g := by
    unfold sliced
    by_cases h : cap = k
    · exact ⟨_, _, _, by rw [if_pos h], rfl⟩
    · exact ⟨_, _, _, by rw [if_neg h, Option.map_some], by rw [addr_add]⟩
  rw [hsl] at e2
  have hkB : cap * sz ≠ 0 := Nat.mul_ne_zero (by omega) (by omega)
  have h3 := Lib.run_overlaps_apart (P := P) w t tb e ht sz hsz ⟨gv, 0, none⟩ ad lv cv lb cb (by rw [hadb]; exact hgne) e e curv.size cur.size (by simp [World.shape?, hgv]) (by simp [World.shape?, hadb, hg]) (by rw [hcs]; exact hkB) (by simp [World.frozen?, hgv]) (by simp [World.frozen?, hgv])
  have h4 := run_callFunc_extern (P := P) hf hname hb hnx he #[slv gv lv cv, .slice (some ad) lb cb] w
  rw [h3, Result.andThen_ok] at h4
  refine ⟨.bool false, ?_, rfl⟩
  simp only [execOp, ho, resolve, List.map_toArray, List.map_cons, List.map_nil, e1, e2, show a.eval (.func f) = .func (.func f) #[] #[] from rfl]
  simp [Deferred.ofValue, invoke, h4]
/-- append(s[:k], s[j:]...) in place. -/
theorem sq_cutout {ops : Array Oper} {rest : List Oper} {env : List (Nat × AV)} {K : AState → Prop} {t e : TypeId} {p q : Operand} {d sz g len cap k j : Nat} {inf : TypeInfo} {es : List (List AV)} (i : Nat) (hg : o.guard = none) (ho : o.op = .call { callee := .builtin .append, args := #[p, q], argTypes := #[t, t] }) (hd : o.dst = some d) (hn : Nat.blt d n = true)
    (ht : P.underlying t = some (.slice e)) (hinf : P.info? e = some inf) (hsz : inf.size = sz) (hp : Ev (getv · env) p (AV.is (slv g k cap))) (hq : Ev (getv · env) q (AV.is (sliced (some ⟨g, 0, none⟩) j len cap sz))) (hi : own[i]? = some (.arr (slv g len cap) e sz es)) (hk : k ≤ j) (hj : j ≤ len)
    (c : ASeq P G n ops rest ⟨own.set i (.arr (slv g (k + (len - j)) cap) e sz (es.take k ++ es.drop j)), (d, AV.is (slv g (k + (len - j)) cap)) :: env⟩ K) : ASeq P G n ops (o :: rest) ⟨own, env⟩ K :=
  opS_run hg fun w0 R0 R a w ⟨h1, h2, h3, h4⟩ => by
    have e1 : a.eval p = _ := ev_st (s := ⟨own, env⟩) (o := o) hp h2
    have e2 : a.eval q = _ := ev_st (s := ⟨own, env⟩) (o := o) hq h2
    have hok := h1.owned _ (List.mem_of_getElem? hi)
    obtain ⟨hl, hlc, hcm, hu, cur, xs, hgw, hcs, htake, hxl, hdc⟩ := own_vals hok
    obtain ⟨ad, cb, hsl, hadb⟩ : ∃ ad cb, sliced (some ⟨g, 0, none⟩) j len cap sz = .slice (some ad) (len - j) cb ∧ (j < len → ad = ⟨g, j * sz, none⟩) := by
      unfold sliced
      by_cases h : cap = j
      · exact ⟨_, _, by rw [if_pos h], fun h' => by omega⟩
      · exact ⟨_, _, by rw [if_neg h, Option.map_some], fun _ => by rw [addr_add, Nat.zero_add]⟩
    rw [hsl] at e2
    have hb0 : k * sz ≤ j * sz := Nat.mul_le_mul_right sz hk
    have hb1 : j * sz ≤ len * sz := Nat.mul_le_mul_right sz hj
    have hb4 : len * sz ≤ cap * sz := Nat.mul_le_mul_right sz hlc
    have hvl : (xs.drop (j * sz)).length = (len - j) * sz := by rw [List.length_drop, hxl, Nat.sub_mul]
    have hsum : (len - j) * sz = len * sz - j * sz := Nat.sub_mul _ _ _
    have hone : ∀ u ∈ xs.drop (j * sz), u.oneCell' = true := fun u hmu => by
      obtain ⟨i', hj'⟩ := List.getElem?_of_mem (List.mem_of_mem_drop hmu)
      have hjl : i' < es.flatten.length := by rw [← hdc.1]; exact (List.getElem?_eq_some_iff.1 hj').1
      exact (hdc.2 i' u _ hj' (List.getElem?_eq_getElem hjl)).2
    have hcell : ∀ i' u, (xs.drop (j * sz))[i']? = some u → w.cell? (ad.add i') = some u := fun i' u hu' => by
      rw [List.getElem?_drop] at hu'
      have hjl : j * sz + i' < len * sz := by rw [← hxl]; exact (List.getElem?_eq_some_iff.1 hu').1
      have hjlt : j < len := by
        rcases Nat.lt_or_ge j len with h | h
        · exact h
        · have := Nat.mul_le_mul_right sz h; omega
      rw [hadb hjlt, addr_add]
      rw [← htake, List.getElem?_take_of_lt hjl, Array.getElem?_toList] at hu'
      simp [World.cell?, hgw, hu']
    have hr := run_append_room (P := P) w t o.type e inf ht hinf g k cap cur hgw ad (len - j) cb (xs.drop (j * sz)) (by rw [hvl, hsz]) hcell hone (by omega) (by rw [hvl, hcs, hsz]; omega)
    rw [hsz] at hr
    have hex : (execOp a.eval o).run P w = .ok (.value (slv g (k + (len - j)) cap)) (w.setRow g (cur.toList.take (k * sz) ++ xs.drop (j * sz) ++ cur.toList.drop (k * sz + (xs.drop (j * sz)).length)).toArray) := by
      simp only [execOp, ho, resolve, invoke, builtin, Sem.run_bind, Sem.run_pure, Result.andThen_ok, List.map_toArray, List.map_cons, List.map_nil, e1, e2, hr]
    unfold Oper.wp
    rw [hex, Oper.upon_value, hd]
    have hel : (es.take k ++ es.drop j).length = k + (len - j) := by simp; omega
    have hmul : (k + (len - j)) * sz = k * sz + (len - j) * sz := Nat.add_mul _ _ _
    refine ⟨_, R, c, RSub.refl _, core_set h1 hi rfl rfl ⟨hok.1, fun z hz => ?_, xs.take (k * sz) ++ xs.drop (j * sz), ⟨?_, .inr ⟨g, cap, _, by rw [hel], Nat.zero_le _, setRow_heap w g _ _ e _ hgw, by rw [hel]; omega, hcm, ?_, ?_⟩⟩, ?_⟩ (setRow_grown w g _), env_put h2 (RSub.refl _) (by rw [h3]; exact Nat.blt_eq.mp hn) rfl, by rw [size_put]; exact h3, by rw [defers_put]; exact h4⟩
    · rcases List.mem_append.1 hz with hz | hz
      · exact hu z (List.mem_of_mem_take hz)
      · exact hu z (List.mem_of_mem_drop hz)
    · rw [hel, List.length_append, hvl, List.length_take, hxl, hmul]; omega
    · simp only [List.size_toArray, List.length_append, List.length_take, List.length_drop, Array.length_toList, hcs, hxl]; omega
    · rw [hel]
      show List.take ((k + (len - j)) * sz) (cur.toList.take (k * sz) ++ xs.drop (j * sz) ++ cur.toList.drop (k * sz + (xs.drop (j * sz)).length)) = _
      have hl2 : (cur.toList.take (k * sz) ++ xs.drop (j * sz)).length = (k + (len - j)) * sz := by rw [List.length_append, hvl, List.length_take, Array.length_toList, hcs, hmul]; omega
      rw [← hl2, List.take_left', ← htake, List.take_take, Nat.min_eq_left (by omega)]
      rfl
    · rw [List.flatten_append, flatten_take k hu, flatten_drop j hu]
      refine denC_append' ⟨by simp [hdc.1], fun i' u x hu' hx => ?_⟩ ⟨by simp [hdc.1], fun i' u x hu' hx => ?_⟩
      · by_cases hj' : i' < k * sz
        · rw [List.getElem?_take_of_lt hj'] at hu' hx; exact hdc.2 i' u x hu' hx
        · rw [List.getElem?_eq_none (by simp; omega)] at hu'; cases hu'
      · rw [List.getElem?_drop] at hu' hx; exact hdc.2 _ u x hu' hx
/-- clear of what lies behind the end. -/
theorem sq_vclear {ops : Array Oper} {rs : List Oper} {env : List (Nat × AV)} {K : AState → Prop} {t e : TypeId} {p : Operand} {z : Value} {sz g len cap lo hi : Nat} {es : List (List AV)} (i : Nat) (hg : o.guard = none) (ho : o.op = .call { callee := .builtin .clear, args := #[p], argTypes := #[t] }) (hd : o.dst = none)
    (ht : P.underlying t = some (.slice e)) (hz : ∀ w, (zeroValue e).run P w = .ok z w) (hzs : z.cells.size = sz) (h1z : z.cells.toList.all Value.oneCell' = true) (hpos : Nat.ble 1 sz = true) (hp : Ev (getv · env) p (AV.is (sliced (some ⟨g, 0, none⟩) lo hi cap sz))) (hi' : own[i]? = some (.arr (slv g len cap) e sz es)) (h1 : len ≤ lo) (h2 : lo ≤ hi) (h3 : hi ≤ cap)
    (c : ASeq P G n ops rs ⟨own, env⟩ K) : ASeq P G n ops (o :: rs) ⟨own, env⟩ K :=
  opS_run hg fun w0 R0 R a w ⟨h1', h2', h3', h4'⟩ => by
    have e1 : a.eval p = _ := ev_st (s := ⟨own, env⟩) (o := o) hp h2'
    have hok := h1'.owned _ (List.mem_of_getElem? hi')
    obtain ⟨hl, hlc, hcm, hu, cur, xs, hgw, hcs, htake, hxl, hdc⟩ := own_vals hok
    have hb1 := Nat.le_of_ble_eq_true hpos
    by_cases hlh : lo = hi
    · have hex : (execOp a.eval o).run P w = .ok (.value (.tuple #[])) w := by
        subst hlh
        simp only [execOp, ho, resolve, invoke, builtin, List.map_toArray, List.map_cons, List.map_nil, e1, sliced, Nat.sub_self, Sem.run_bind, Sem.run_pure, Result.andThen_ok]
        by_cases hc : cap = lo <;> simp [Builtin.clear_, run_underlying ht, hc]
      unfold Oper.wp
      rw [hex, Oper.upon_value, hd]
      exact ⟨_, R, c, RSub.refl _, h1', h2', h3', h4'⟩
    · obtain ⟨m, hm⟩ : ∃ m, hi - lo = m + 1 := ⟨hi - lo - 1, by omega⟩
      rw [sliced_tail (by omega) h3, hm] at e1
      have hlz := zeroCells_list z sz hzs (m + 1)
      have hone : ∀ u ∈ (Builtin.zeroCells z.cells (m + 1)).toList, u.oneCell' = true := fun u hu => by
        obtain ⟨j, hj⟩ := List.getElem?_of_mem hu
        rw [hlz.2 j u hj, getElem!_pos z.cells _ (by rw [hzs]; exact Nat.mod_lt _ (by omega))]
        exact List.all_eq_true.1 h1z _ (by simp)
      have hmul : lo * sz + (m + 1) * sz = hi * sz := by rw [← Nat.add_mul]; congr 1; omega
      have hmc : hi * sz ≤ cap * sz := Nat.mul_le_mul_right sz h3
      have hml : len * sz ≤ lo * sz := Nat.mul_le_mul_right sz h1
      have hst := run_storeCells_at (P := P) g (lo * sz) e (Builtin.zeroCells z.cells (m + 1)).toList 0 cur w hgw (by rw [hlz.1, hcs]; omega) hone
      simp only [Nat.add_zero, hlz.1] at hst
      have hex : (execOp a.eval o).run P w = .ok (.value (.tuple #[])) (w.setRow g (cur.toList.take (lo * sz) ++ (Builtin.zeroCells z.cells (m + 1)).toList ++ cur.toList.drop (lo * sz + (m + 1) * sz)).toArray) := by
        simp only [execOp, ho, resolve, invoke, builtin, List.map_toArray, List.map_cons, List.map_nil, e1, Sem.run_bind, Sem.run_pure, Result.andThen_ok]
        simp [Builtin.clear_, run_underlying ht, hz, hst]
      unfold Oper.wp
      rw [hex, Oper.upon_value, hd]
      have hset : own.set i (.arr (slv g len cap) e sz es) = own := by
        obtain ⟨hlt, heq⟩ := List.getElem?_eq_some_iff.1 hi'
        rw [← heq]; exact List.set_getElem_self hlt
      obtain ⟨cur', hcur'⟩ : ∃ cur' : Array Value, cur' = (cur.toList.take (lo * sz) ++ (Builtin.zeroCells z.cells (m + 1)).toList ++ cur.toList.drop (lo * sz + (m + 1) * sz)).toArray := ⟨_, rfl⟩
      have hs1 : cur'.size = cap * sz := by
        rw [hcur']; simp only [List.size_toArray, List.length_append, List.length_take, List.length_drop, hlz.1, Array.length_toList, hcs]; omega
      have hs2 : cur'.toList.take (len * sz) = xs := by
        rw [hcur', ← htake]
        show List.take (len * sz) (cur.toList.take (lo * sz) ++ (Builtin.zeroCells z.cells (m + 1)).toList ++ cur.toList.drop (lo * sz + (m + 1) * sz)) = _
        rw [List.append_assoc, List.take_append_of_le_length (by rw [List.length_take, Array.length_toList, hcs]; omega), List.take_take, Nat.min_eq_left hml]
      rw [← hcur']
      have hcore := core_set (y := .arr (slv g len cap) e sz es) h1' hi' rfl rfl ⟨hok.1, hu, xs, ⟨by rw [hxl, hl], .inr ⟨g, cap, cur', by rw [hl], Nat.zero_le _, setRow_heap w g _ _ e _ hgw, by rw [← hl]; exact hlc, hcm, hs1, by rw [← hl]; exact hs2⟩⟩, hdc⟩ (setRow_grown w g cur')
      rw [hset] at hcore
      exact ⟨_, R, c, RSub.refl _, hcore, h2', h3', h4'⟩
end
end Go.AV

set_option linter.unusedVariables false
set_option linter.unusedSimpArgs false
namespace Go.AV
open Go.RowKit (Below)
section
variable {P : Program} {G : Nat → Prop} {n : Nat} {own : List Own} {o : Oper} {E : EnvF}
theorem opE_append {ops : Array Oper} {t e : TypeId} {p q : Operand} {sz by' : Nat} {inf : TypeInfo} {z : Value} {v : Value} {es fs : List (List AV)} (i : Nat) (ho : o.op = .call { callee := .builtin .append, args := #[p, q], argTypes := #[t, t] }) (ht : P.underlying t = some (.slice e)) (hinf : P.info? e = some inf) (hz : inf.zero = some z) (hsz : inf.size = sz) (hby : inf.bytes = by') (hzs : z.cells.size = sz) (hpos : Nat.ble 1 sz = true) (hpos2 : Nat.ble 1 by' = true) (hp : Ev E p (AV.is v)) (hq : Ev E q (AV.list sz fs)) (hi : own[i]? = some (.arr v e sz es))
    (hlen : (es.length + fs.length) * by' ≤ 140737488355328) : OpE P G n own ops o E (fun _ : Value => True) (fun v' => own.set i (.arr v' e sz (es ++ fs))) (fun v' => AV.is v') :=
  fun w0 R0 R a w h1 h3 h2 => by
    have e1 : a.eval p = v := ev_lookA (ops := ops) hp (by simp [ho, Op.operands, Call.operands]) h2
    obtain ⟨oa, c, e2, hc1, hc2, hu, hcell⟩ := ev_lookA (ops := ops) hq (by simp [ho, Op.operands, Call.operands]) h2
    obtain ⟨hR, hue, xs, hown, hdc⟩ := h1.owned _ (List.mem_of_getElem? hi)
    have hb1 := Nat.le_of_ble_eq_true hpos
    have hb2 := Nat.le_of_ble_eq_true hpos2
    have hsum : es.length + fs.length ≤ 140737488355328 := Nat.le_trans (Nat.le_mul_of_pos_right _ hb2) hlen
    have hufs : ∀ x ∈ es ++ fs, x.length = sz := fun x hx => by
      rcases List.mem_append.1 hx with h | h
      · exact hue x h
      · exact hu x h
    by_cases hfs : fs = []
    · subst hfs
      have hrun : ∃ v', (Builtin.append_ #[t, t] o.type #[v, a.eval q]).run P w = .ok v' w ∧ v' = v := by
        refine ⟨v, ?_, rfl⟩
        rw [e2]
        rcases hown.2 with ⟨rfl, hz0⟩ | ⟨g, cap, cur, rfl, _, _, hnc, _⟩
        · cases oa with
          | none => simp [Builtin.append_, run_underlying ht, sizeOf, typeInfo, hinf, Builtin.lenOf, Builtin.firstCells, hz0]
          | some ad => simp [Builtin.append_, run_underlying ht, sizeOf, typeInfo, hinf, Builtin.lenOf, Builtin.firstCells, loadCells, loadCellsFrom, hz0]
        · cases oa with
          | none => simp [Builtin.append_, run_underlying ht, sizeOf, typeInfo, hinf, Builtin.lenOf, Builtin.firstCells, hnc, storeCells]
          | some ad => simp [Builtin.append_, run_underlying ht, sizeOf, typeInfo, hinf, Builtin.lenOf, Builtin.firstCells, loadCells, loadCellsFrom, hnc, storeCells]
      obtain ⟨v', hr, rfl⟩ := hrun
      have hex : (execOp a.eval o).run P w = .ok (.value v') w := by
        simp only [execOp, ho, resolve, invoke, builtin, Sem.run_bind, Sem.run_pure, Result.andThen_ok, List.map_toArray, List.map_cons, List.map_nil, e1, hr]
      unfold Oper.wp
      rw [hex, Oper.upon_value]
      have hset : own.set i (.arr v' e sz (es ++ [])) = own := by
        rw [List.append_nil]
        obtain ⟨hlt, he⟩ := List.getElem?_eq_some_iff.1 hi
        rw [← he]; exact List.set_getElem_self hlt
      exact ⟨v', v', R, trivial, rfl, by show Core G w0 R0 (own.set i (.arr v' e sz (es ++ []))) R w; rw [hset]; exact h1, RSub.refl _, rfl⟩
    · obtain ⟨ad, rfl, hca⟩ := hcell hfs
      obtain ⟨ns, hn1, hn2, hn3⟩ := list_cells (sz := sz) h1.rle hca
      have hnl : ns.length = fs.length * sz := by rw [hn1, flatten_len hu]
      have hone : ∀ u ∈ ns, u.oneCell' = true := fun u hm => by
        obtain ⟨j, hj⟩ := List.getElem?_of_mem hm
        have hjl : j < fs.flatten.length := by rw [← hn1]; exact (List.getElem?_eq_some_iff.1 hj).1
        exact (hn3.2 j u _ hj (List.getElem?_eq_getElem hjl)).2
      obtain ⟨v', w', hr, hown', hgr, _, hblk⟩ := run_append_own_at (P := P) w 0 t o.type e inf z sz by' ht hinf hz hsz hby hzs hb1 v es.length xs hown ad fs.length c ns hnl hn2 hone (by unfold maxLen; omega) hlen (Nat.zero_le _)
      have hex : (execOp a.eval o).run P w = .ok (.value v') w' := by
        simp only [execOp, ho, resolve, invoke, builtin, Sem.run_bind, Sem.run_pure, Result.andThen_ok, List.map_toArray, List.map_cons, List.map_nil, e1, e2, hr]
      unfold Oper.wp
      rw [hex, Oper.upon_value]
      refine ⟨v', v', R, trivial, rfl, core_repl h1 hi (fun b hb => ?_) ⟨fun b hb => ?_, hufs, xs ++ ns, ?_, ?_⟩ hgr, RSub.refl _, rfl⟩
      · simp only [Own.blk] at hb ⊢
        rcases hblk with h | h
        · exact .inl (by rw [← h]; exact hb)
        · rw [hb] at h; injection h with h; exact .inr h
      · rcases hblk with h | h
        · exact hR b (by rw [← h]; exact hb)
        · rw [hb] at h; injection h with h; subst h; exact rle_none h1.rle
      · rw [List.length_append]; exact hown'
      · rw [List.flatten_append]; exact denC_append' hdc hn3

theorem opE_empty {ops : Array Oper} {t e : TypeId} {sz : Nat} (ho : o.op = .buildSlice t 0 #[]) (ht : P.underlying t = some (.slice e)) (hs : ∀ w, (sizeOf e).run P w = .ok sz w)
    : OpE P G n own ops o E (fun _ : Value => True) (fun v' => own ++ [.arr v' e sz []]) (fun v' => AV.is v') :=
  fun w0 R0 R a w h1 h3 h2 => by
    have hex : (execOp a.eval o).run P w = .ok (.value (.slice (some ⟨w.heap.size, 0, none⟩) 0 0)) (w.alloc (.cells #[] e)) := by
      simp [execOp, ho, Instr.buildSlice, run_underlying ht, hs, newRow, Instr.fill, go_sem]
    unfold Oper.wp
    rw [hex, Oper.upon_value]
    exact ⟨_, _, R, trivial, rfl, core_perm (core_arr_new h1 rfl (Nat.le_refl _) (Nat.zero_le _) (by simp) (fun x hx => by simp at hx) ⟨by simp, fun i v x h => by simp at h⟩) (List.perm_append_comm (l₁ := [_])), RSub.refl _, rfl⟩

theorem opE_bslice {ops : Array Oper} {t e : TypeId} {len sz : Nat} {z : Value} {ps : Array (Nat × Operand)} {asl : List (Nat × List AV)} {cs : List AV} {es : List (List AV)} (ho : o.op = .buildSlice t len ps) (ht : P.underlying t = some (.slice e)) (hsz : ∀ w, (sizeOf e).run P w = .ok sz w) (hz : ∀ w, (zeroValue e).run P w = .ok z w)
    (hl : Nat.ble (len * sz) 1000 = true) (hl2 : Nat.ble len 1000 = true) (hzs : z.cells.size = sz) (h1' : z.cells.toList.all Value.oneCell' = true) (hp : EvP E ps.toList asl) (hc : afill (fun i => some (i * sz, sz)) ((List.range (len * sz)).map fun i => zeroA (z.cells[i % z.cells.size]!)) asl = some cs) (hes : chunks sz len cs = es)
    : OpE P G n own ops o E (fun _ : Value => True) (fun v' => own ++ [.arr v' e sz es]) (fun v' => AV.is v') :=
  fun w0 R0 R a w h1 h3 h2 => by
    obtain ⟨k1, k2⟩ := evp_use (o := o) (fun t ht => h2 t (looks_tmps ht)) hp fun p hpm => by simp [ho, Op.operands]; exact ⟨p.1, by simpa using hpm⟩
    have hone : ∀ i, i < len * sz → (z.cells[i % z.cells.size]!).oneCell' = true := fun i hi => by
      have hpos : 0 < z.cells.size := by
        rw [hzs]
        rcases Nat.eq_zero_or_pos sz with h0 | h0
        · subst h0; simp at hi
        · exact h0
      rw [getElem!_pos z.cells _ (Nat.mod_lt _ hpos)]
      exact List.all_eq_true.1 h1' _ (by simp)
    obtain ⟨cells', f2, f3⟩ := fill_den (R := R) (place := fun i => some (i * sz, sz)) _ asl ((Array.range (len * sz)).map fun i => z.cells[i % z.cells.size]!) _ cs ⟨by simp, fun i v y hv hy => by
      rw [Array.toList_map, List.getElem?_map, Array.toList_range] at hv
      rw [List.getElem?_map] at hy
      by_cases hi : i < len * sz
      · rw [List.getElem?_range hi] at hv hy
        simp only [Option.map_some, Option.some.injEq] at hv hy
        rw [← hv, ← hy]
        exact ⟨zeroA_den R _, hone i hi⟩
      · rw [List.getElem?_eq_none (by simp; omega)] at hv; cases hv⟩ k1 k2 hc
    have hlen := Nat.le_of_ble_eq_true hl
    have h5 : cells'.toList.length = len * sz := by
      rw [f3.1, afill_len asl _ cs hc]; simp
    have hch := chunks_flat sz len cs (by rw [← f3.1]; exact h5)
    have h6 : (ps.map fun (i, x) => (i, a.eval x)).toList = ps.toList.map fun p => (p.1, a.eval p.2) := by simp
    have hrun : (execOp a.eval o).run P w = .ok (.value (.slice (some ⟨w.heap.size, 0, none⟩) len len)) (w.alloc (.cells cells' e)) := by
      have hcap : ¬ (len * sz > 2 ^ 24) := by omega
      by_cases h0 : len * sz = 0
      · have h7 : (Array.range (len * sz)).map (fun x => (#[] : Array Value)[x % (#[] : Array Value).size]!) = (Array.range (len * sz)).map fun i => z.cells[i % z.cells.size]! := by rw [h0]; simp
        rw [← h7] at f2
        simp only [execOp, ho, Instr.buildSlice, run_underlying ht, hsz, hcap, if_false, Sem.run_bind, Sem.run_pure, Result.andThen_ok, Sem.run_ite, if_pos h0, h6, f2, newRow, run_newObj, World.alloc_eq]
      · simp only [execOp, ho, Instr.buildSlice, run_underlying ht, hsz, hcap, if_false, Sem.run_bind, Sem.run_pure, Result.andThen_ok, Sem.run_ite, if_neg h0, hz, h6, f2, newRow, run_newObj, World.alloc_eq]
    unfold Oper.wp
    rw [hrun, Oper.upon_value]
    have hlz : es.length = len := by rw [← hes, chunks_len]
    refine ⟨_, _, R, trivial, rfl, core_perm (core_arr_new (sz := sz) (m := len) (cap := len) (es := es) h1 hlz (Nat.le_refl _) (by have := Nat.le_of_ble_eq_true hl2; unfold maxLen; omega) (by rw [← Array.length_toList]; exact h5) (by rw [← hes]; exact hch.2) ?_) (List.perm_append_comm (l₁ := [_])), RSub.refl _, rfl⟩
    rw [List.take_of_length_le (by rw [h5]; exact Nat.le_refl _), ← hes, hch.1]
    exact f3
/-- append of what a copy may read, onto an array of the call's own. -/
theorem sq_appendS {ops : Array Oper} {rest : List Oper} {env : List (Nat × AV)} {K : AState → Prop} {t e : TypeId} {p q : Operand} {d sz by' : Nat} {inf : TypeInfo} {z : Value} {v : Value} {es fs : List (List AV)} (i : Nat) (hg : o.guard = none) (ho : o.op = .call { callee := .builtin .append, args := #[p, q], argTypes := #[t, t] }) (hd : o.dst = some d) (hn : Nat.blt d n = true)
    (ht : P.underlying t = some (.slice e)) (hinf : P.info? e = some inf) (hz : inf.zero = some z) (hsz : inf.size = sz) (hby : inf.bytes = by') (hzs : z.cells.size = sz) (hpos : Nat.ble 1 sz = true) (hpos2 : Nat.ble 1 by' = true) (hp : Ev (getv · env) p (AV.is v)) (hq : SrcIs own (getv · env) q sz fs) (hne : fs ≠ []) (hi : own[i]? = some (.arr v e sz es))
    (hlen : (es.length + fs.length) * by' ≤ 140737488355328) (k : ∀ v', ASeq P G n ops rest ⟨own.set i (.arr v' e sz (es ++ fs)), (d, AV.is v') :: env⟩ K) : ASeq P G n ops (o :: rest) ⟨own, env⟩ K :=
  opS_run hg fun w0 R0 R a w ⟨h1, h2, h3, h4⟩ => by
    have e1 : a.eval p = v := ev_st (s := ⟨own, env⟩) (o := o) hp h2
    obtain ⟨hu, hsrc⟩ := hq G w0 R0 R a w h1 (fun t _ y hy => h2 t y hy)
    obtain ⟨ad, c, ns, e2, hn2, hn3⟩ := hsrc hne
    obtain ⟨hR, hue, xs, hown, hdc⟩ := h1.owned _ (List.mem_of_getElem? hi)
    have hb1 := Nat.le_of_ble_eq_true hpos
    have hb2 := Nat.le_of_ble_eq_true hpos2
    have hsum : es.length + fs.length ≤ 140737488355328 := Nat.le_trans (Nat.le_mul_of_pos_right _ hb2) hlen
    have hufs : ∀ x ∈ es ++ fs, x.length = sz := fun x hx => by
      rcases List.mem_append.1 hx with h | h
      · exact hue x h
      · exact hu x h
    have hnl : ns.length = fs.length * sz := by rw [hn3.1, flatten_len hu]
    have hone : ∀ u ∈ ns, u.oneCell' = true := fun u hm => by
      obtain ⟨j, hj⟩ := List.getElem?_of_mem hm
      have hjl : j < fs.flatten.length := by rw [← hn3.1]; exact (List.getElem?_eq_some_iff.1 hj).1
      exact (hn3.2 j u _ hj (List.getElem?_eq_getElem hjl)).2
    obtain ⟨v', w', hr, hown', hgr, _, hblk⟩ := run_append_own_at (P := P) w 0 t o.type e inf z sz by' ht hinf hz hsz hby hzs hb1 v es.length xs hown ad fs.length c ns hnl hn2 hone (by unfold maxLen; omega) hlen (Nat.zero_le _)
    have hex : (execOp a.eval o).run P w = .ok (.value v') w' := by
      simp only [execOp, ho, resolve, invoke, builtin, Sem.run_bind, Sem.run_pure, Result.andThen_ok, List.map_toArray, List.map_cons, List.map_nil, e1, e2, hr]
    unfold Oper.wp
    rw [hex, Oper.upon_value, hd]
    refine ⟨_, R, k v', RSub.refl _, core_repl h1 hi (fun b hb => ?_) ⟨fun b hb => ?_, hufs, xs ++ ns, ?_, ?_⟩ hgr, env_put h2 (RSub.refl _) (by rw [h3]; exact Nat.blt_eq.mp hn) rfl, by rw [size_put]; exact h3, by rw [defers_put]; exact h4⟩
    · simp only [Own.blk] at hb ⊢
      rcases hblk with h | h
      · exact .inl (by rw [← h]; exact hb)
      · rw [hb] at h; injection h with h; exact .inr h
    · rcases hblk with h | h
      · exact hR b (by rw [← h]; exact hb)
      · rw [hb] at h; injection h with h; subst h; exact rle_none h1.rle
    · rw [List.length_append]; exact hown'
    · rw [List.flatten_append]; exact denC_append' hdc hn3
/-- A call of a function value that captures one variable of the caller's. -/
theorem w_callclo {f : FuncId} {args : Array Operand} {tys : Array TypeId} {p : Operand} {ps : List Operand} {xs cs : List AV} {y : AV} {b : Nat} {t : TypeId} (i : Nat) (ho : o.op = .call { callee := .value p, args := args, argTypes := tys }) (hc : ∀ (vs : Array Value) (w : World), (callFunc f vs).run P w = .ok (.enter f vs) w)
    (hp : Ev E p (AV.clo f [AV.ptr b 0])) (hi : own[i]? = some (.box b t cs)) (hps : args.toList = ps) (hs : FSpec P f (xs ++ [AV.eptr cs]) y) (hy : Flat y) (he : EvLB own E ps xs) : OpW P G n own o E y := fun w0 R0 R a w hcore _ hen => by
  have hd := evlb_use hcore hen he fun p hp => by simp [ho, Op.operands, Call.operands]; right; rw [← hps] at hp; exact Array.mem_toList_iff.1 hp
  obtain ⟨cv, e1, hcd⟩ := ev_use hp (by simp [ho, Op.operands, Call.operands]) hen
  obtain ⟨v, rfl⟩ : ∃ v, cv = [v] := by
    match cv, hcd.1 with
    | [v], _ => exact ⟨v, rfl⟩
  have hv : v = .pointer (some ⟨b, 0, none⟩) := hcd.2 0 v _ rfl rfl
  have hargs : args.map a.eval = (ps.map a.eval).toArray := by rw [← hps]; cases args; simp
  have hrun : (execOp a.eval o).run P w = .ok (.enter f (ps.map a.eval ++ [v]).toArray) w := by
    simp only [execOp, ho, resolve, hargs, e1]
    simp [Deferred.ofValue, invoke, hc]
  unfold Oper.wp
  rw [hrun, Oper.upon_enter]
  have hden : DenV (lend own w R) (ps.map a.eval ++ [v]) (xs ++ [AV.eptr cs]) := ⟨by simp [hd.1], fun j u x hu hx => by
    by_cases hj : j < (ps.map a.eval).length
    · rw [List.getElem?_append_left hj] at hu
      rw [List.getElem?_append_left (by rw [← hd.1]; exact hj)] at hx
      exact hd.2 j u x hu hx
    · rw [List.getElem?_append_right (by omega)] at hu
      rw [List.getElem?_append_right (by rw [← hd.1]; omega), ← hd.1] at hx
      have hj0 : j - (ps.map a.eval).length = 0 := by have := (List.getElem?_eq_some_iff.1 hu).1; simp at this; simp; omega
      rw [hj0] at hu hx
      simp at hu hx; subst hu; subst hx
      rw [hv]
      exact ptr_eptr hcore i hi⟩
  refine (hs (lend own w R) w _ (lend_le hcore) hden).mono fun e w' ⟨v, R', e1, e2, e3, e4, e5⟩ => ?_
  subst e1
  have hR2 : ∀ b, b < w.heap.size → (fun b => bif ownB own b then none else R' b) b = R b := fun b hb => by
    cases hob : ownB own b with
    | true =>
      obtain ⟨x, hx, hxb⟩ := ownB_true hob
      show (bif ownB own b then none else R' b) = R b
      rw [hob, cond_true]; exact (Own.ok_blk (hcore.owned x hx) hxb).1.symm
    | false =>
      show (bif ownB own b then none else R' b) = R b
      rw [hob, cond_false, e4 b hb]
      unfold lend
      rw [hob, cond_false]
  refine ⟨v, (fun b => bif ownB own b then none else R' b), rfl, hcore.step e5 (fun b x hx => ?_) hR2, rsub_of hcore.rle hR2, hy _ _ _ e2⟩
  cases hob : ownB own b with
  | true => simp [hob] at hx
  | false => exact e3 b x (by simpa [hob] using hx)
end
end Go.AV

set_option linter.unusedVariables false
namespace Go.M
open Go.AV
abbrev Str := List UInt8
@[reducible] def strs (l : List Str) : AV := AV.list 1 (l.map fun s => [AV.str s])
@[reducible] def ints (l : List Int) : AV := AV.list 1 (l.map fun s => [AV.int s])
/-- What a law counts down, and what is left. -/
def sizeL {α : Type} (f : α → Nat) (l : List α) : Nat := l.length + (l.map f).sum
def szR (n : Nat) (left : Int) : Int := if left < n then -1 else left - n
theorem sum_take {α : Type} (f : α → Nat) : ∀ (l : List α) (i : Nat) (x : α), l[i]? = some x → ((l.take (i + 1)).map f).sum = ((l.take i).map f).sum + f x
  | [], i, x, h => by simp at h
  | y :: l, 0, x, h => by simp at h; subst h; simp
  | y :: l, i + 1, x, h => by
    have := sum_take f l i x (by simpa using h)
    simp only [List.take_succ_cons, List.map_cons, List.sum_cons, this]; omega
theorem sum_le {α : Type} (f : α → Nat) : ∀ (l : List α) (i : Nat) (x : α), l[i]? = some x → ((l.take i).map f).sum + f x ≤ (l.map f).sum
  | [], i, x, h => by simp at h
  | y :: l, 0, x, h => by simp at h; subst h; simp
  | y :: l, i + 1, x, h => by
    have := sum_le f l i x (by simpa using h)
    simp only [List.take_succ_cons, List.map_cons, List.sum_cons]; omega
theorem sizeL_mem {α : Type} {f : α → Nat} {l : List α} {x : α} (h : x ∈ l) : f x ≤ sizeL f l := by
  obtain ⟨i, hi⟩ := List.getElem?_of_mem h
  have := sum_le f l i x hi
  unfold sizeL; omega
theorem sizeL_len {α : Type} {f : α → Nat} {l : List α} : l.length ≤ sizeL f l := by unfold sizeL; omega
theorem sizeL_get {α : Type} {f : α → Nat} {l : List α} {i : Nat} {x : α} (h : l[i]? = some x) : f x ≤ sizeL f l := sizeL_mem (List.mem_of_getElem? h)
theorem take_eq_of {α : Type} {a b : List α} {i : Nat} (hl : a.length = b.length) (h : a.take i = b.take i) (hi : a.length ≤ i) : a = b := by
  rwa [List.take_of_length_le hi, List.take_of_length_le (by omega)] at h
theorem take_eq_succ {α : Type} {a b : List α} {i : Nat} {x : α} (h : a.take i = b.take i) (ha : a[i]? = some x) (hb : b[i]? = some x) : a.take (i + 1) = b.take (i + 1) := by
  rw [List.take_add_one, List.take_add_one, h, ha, hb]
theorem get_any {α : Type} [Inhabited α] (l : List α) (i : Nat) : ∃ y, i < l.length → l[i]? = some y := ⟨l[i]?.getD default, fun h => by rw [List.getElem?_eq_getElem h]; rfl⟩
theorem del_keep {α : Type} {p : α → Bool} {l m : List α} {i j : Nat} {x : α} (hm : m.length = l.length) (hij : i ≤ j) (hx : l[j]? = some x) (h1 : m.take i = (l.take j).filter p) (h2 : m.drop j = l.drop j) (hp : p x = true) : (m.set i x).take (i + 1) = (l.take (j + 1)).filter p ∧ (m.set i x).drop (j + 1) = l.drop (j + 1) ∧ (m.set i x).length = l.length := by
  have hj : j < l.length := (List.getElem?_eq_some_iff.1 hx).1
  refine ⟨?_, ?_, by simp [hm]⟩
  · rw [List.take_add_one, List.take_add_one, hx, List.filter_append, ← h1, List.take_set_of_le (Nat.le_refl _), List.getElem?_set_self (by omega)]
    simp [hp]
  · rw [List.drop_set_of_lt (by omega)]
    have := congrArg (List.drop 1) h2
    simpa [List.drop_drop] using this
theorem del_skip {α : Type} {p : α → Bool} {l m : List α} {i j : Nat} {x : α} (hx : l[j]? = some x) (h1 : m.take i = (l.take j).filter p) (h2 : m.drop j = l.drop j) (hp : p x = false) : m.take i = (l.take (j + 1)).filter p ∧ m.drop (j + 1) = l.drop (j + 1) := by
  refine ⟨?_, ?_⟩
  · rw [List.take_add_one, hx, List.filter_append, ← h1]; simp [hp]
  · have := congrArg (List.drop 1) h2
    simpa [List.drop_drop] using this
/-- Where a search by halves ends: the first place whose element is not below. -/
def bs {α : Type} (f : α → Int) (l : List α) (i j : Nat) : Nat :=
  if i < j then
    match l[(i + j) / 2]? with
    | some x => if f x < 0 then bs f l ((i + j) / 2 + 1) j else bs f l i ((i + j) / 2)
    | none => i
  else i
termination_by j - i
def bsAt {α : Type} (f : α → Int) (l : List α) (n : Nat) : Bool :=
  match l[n]? with
  | some x => f x == 0
  | none => false
theorem bs_lo {α : Type} {f : α → Int} {l : List α} {i j : Nat} {x : α} (h : i < j) (hx : l[(i + j) / 2]? = some x) (hf : f x < 0) : bs f l i j = bs f l ((i + j) / 2 + 1) j := by
  rw [bs, if_pos h, hx]; simp only [hf, if_true]
theorem bs_hi {α : Type} {f : α → Int} {l : List α} {i j : Nat} {x : α} (h : i < j) (hx : l[(i + j) / 2]? = some x) (hf : ¬ f x < 0) : bs f l i j = bs f l i ((i + j) / 2) := by
  rw [bs, if_pos h, hx]; simp only [hf, if_false]
theorem bs_end {α : Type} {f : α → Int} {l : List α} {i j : Nat} (h : ¬ i < j) : bs f l i j = i := by rw [bs, if_neg h]
theorem half_eq {i j : Nat} (h : i + j ≤ 9223372036854775807) : IntKind.i64.wrap (IntKind.u64.wrap ((i : Int) + (j : Int)) / 2 ^ ((1 : Int).toNat)) = ((i + j) / 2 : Nat) := by
  have h1 : IntKind.u64.wrap ((i : Int) + (j : Int)) = (i : Int) + (j : Int) := by simp only [IntKind.wrap, IntKind.bits, IntKind.signed]; simp; omega
  rw [h1]
  have h2 : ((i : Int) + (j : Int)) / 2 ^ ((1 : Int).toNat) = (((i + j) / 2 : Nat) : Int) := by
    show ((i : Int) + (j : Int)) / 2 = _
    omega
  rw [h2]
  exact in64 (by omega)
def idxFrom {α : Type} (p : α → Bool) : List α → Int → Int
  | [], _ => -1
  | x :: xs, k => if p x then k else idxFrom p xs (k + 1)
theorem idxFrom_any {α : Type} (p : α → Bool) : ∀ (l : List α) (k : Int), 0 ≤ k → decide (0 ≤ idxFrom p l k) = l.any p
  | [], _, _ => rfl
  | x :: xs, k, h => by
    unfold idxFrom
    cases hp : p x with
    | true => simp [hp]; exact h
    | false => simp [hp, idxFrom_any p xs (k + 1) (by omega)]
theorem idxFrom_spec {α : Type} (f : α → Bool) : ∀ (l : List α) (k : Nat), (idxFrom f l k = -1 ∧ l.filter (fun x => !f x) = l) ∨ ∃ n x, idxFrom f l k = ((k + n : Nat) : Int) ∧ l[n]? = some x ∧ l.take n = (l.take (n + 1)).filter (fun x => !f x)
  | [], k => .inl ⟨rfl, rfl⟩
  | x :: l, k => by
    unfold idxFrom
    cases hf : f x with
    | true => exact .inr ⟨0, x, by simp, rfl, by simp [hf]⟩
    | false =>
      have hk : (k : Int) + 1 = ((k + 1 : Nat) : Int) := by omega
      rw [hk]
      rcases idxFrom_spec f l (k + 1) with ⟨h1, h2⟩ | ⟨n, y, h1, h2, h3⟩
      · exact .inl ⟨by simpa using h1, by simp [hf, h2]⟩
      · refine .inr ⟨n + 1, y, ?_, by simpa using h2, ?_⟩
        · simp only [Bool.false_eq_true, if_false, h1]; omega
        · rw [List.take_succ_cons, List.take_succ_cons, List.filter_cons, hf]
          simp only [Bool.not_false, if_true, ← h3]
theorem ins_grow {α β : Type} {f : α → β} {l : List α} {x : α} {i : Nat} {Z : List β} (hi : i ≤ l.length) (hZ : Z.length = l.length + 1 - i) : (l.take i ++ x :: l.drop i).map f =
    ((((l.map f).take i ++ Z).take i ++ [f x] ++ ((l.map f).take i ++ Z).drop (i + [f x].length)).take (i + 1) ++ (l.map f).drop i ++ (((l.map f).take i ++ Z).take i ++ [f x] ++ ((l.map f).take i ++ Z).drop (i + [f x].length)).drop (i + 1 + ((l.map f).drop i).length)) := by
  have h1 : ((l.map f).take i).length = i := by simp; omega
  have hA : ((l.map f).take i ++ Z).take i = (l.map f).take i := List.take_left' h1
  have h2 : ((l.map f).take i ++ [f x]).length = i + 1 := by simp; omega
  rw [hA, List.take_left' h2]
  have hB : ((l.map f).take i ++ [f x] ++ ((l.map f).take i ++ Z).drop (i + [f x].length)).length ≤ i + 1 + ((l.map f).drop i).length := by
    simp only [List.length_append, List.length_take, List.length_map, List.length_cons, List.length_nil, List.length_drop, hZ]; omega
  rw [List.drop_eq_nil_of_le hB]
  simp [List.map_take, List.map_drop]
theorem ins_shift {α β : Type} {f : α → β} {l : List α} {x : α} {i : Nat} (hi : i < l.length) : (l.take i ++ x :: l.drop i).map f =
    ((l.map f).take (i + 1) ++ (l.map f).drop i).take i ++ [f x] ++ ((l.map f).take (i + 1) ++ (l.map f).drop i).drop (i + [f x].length) := by
  have h1 : ((l.map f).take (i + 1)).length = i + 1 := by simp; omega
  rw [List.take_append_of_le_length (by omega), List.take_take, Nat.min_eq_left (by omega), show i + [f x].length = i + 1 from rfl, List.drop_left' h1]
  simp [List.map_take, List.map_drop]
theorem filt_keep {α : Type} {p : α → Bool} {cs : α → List AV} {l : List α} {i : Nat} {x : α} (hx : l[i]? = some x) (hp : p x = true) : ((l.take i).filter p).map cs ++ [cs x] = ((l.take (i + 1)).filter p).map cs := by
  rw [List.take_add_one, hx, List.filter_append, List.map_append]; simp [hp]
theorem filt_skip {α : Type} {p : α → Bool} {cs : α → List AV} {l : List α} {i : Nat} {x : α} (hx : l[i]? = some x) (hp : p x = false) : ((l.take i).filter p).map cs = ((l.take (i + 1)).filter p).map cs := by
  rw [List.take_add_one, hx, List.filter_append, List.map_append]; simp [hp]
theorem drop_eq_get {α : Type} {m l : List α} {j : Nat} {x : α} (h : m.drop j = l.drop j) (hx : l[j]? = some x) : m[j]? = some x := by
  have h1 : (m.drop j)[0]? = (l.drop j)[0]? := by rw [h]
  simpa [hx] using h1
theorem del_end {α : Type} {p : α → Bool} {cs : α → List AV} {l m : List α} {i j k : Nat} {z : List AV} (h1 : m.take i = (l.take j).filter p) (h2 : l.length ≤ j) (h3 : i ≤ m.length) : ((m.map cs).take i ++ List.replicate k z).take i = (l.filter p).map cs := by
  rw [List.take_left' (by simp; omega), ← List.map_take, h1, List.take_of_length_le h2]
structure TClock where
  Off : Int
deriving DecidableEq, Inhabited
def TClock.cs (c : TClock) : List AV := [AV.int c.Off]
theorem TClock.flat (c : TClock) : ∀ x ∈ c.cs, Flat x := (flatl_cons (flat_ik _ _) flatl_nil)
def TClock.size (c : TClock) : Nat := 0
structure TLease where
  Who : Int
  From : Int
  Until : Int
deriving DecidableEq, Inhabited
def TLease.cs (c : TLease) : List AV := [AV.int c.Who, AV.int c.From, AV.int c.Until]
theorem TLease.flat (c : TLease) : ∀ x ∈ c.cs, Flat x := (flatl_cons (flat_ik _ _) (flatl_cons (flat_ik _ _) (flatl_cons (flat_ik _ _) flatl_nil)))
def TLease.size (c : TLease) : Nat := 0
structure TWatch where
  True : Int
  Clocks : List TClock
  Given : List TLease
deriving DecidableEq, Inhabited
def TWatch.cs (c : TWatch) : List AV := [AV.int c.True, AV.list 1 (c.Clocks.map TClock.cs), AV.list 3 (c.Given.map TLease.cs)]
def TWatch.size (c : TWatch) : Nat := c.Clocks.length + c.Given.length
structure TWatchAct where
  Kind : Int
  Who : Int
  By : Int
deriving DecidableEq, Inhabited
def TWatchAct.cs (c : TWatchAct) : List AV := [AV.int c.Kind, AV.int c.Who, AV.int c.By]
theorem TWatchAct.flat (c : TWatchAct) : ∀ x ∈ c.cs, Flat x := (flatl_cons (flat_ik _ _) (flatl_cons (flat_ik _ _) (flatl_cons (flat_ik _ _) flatl_nil)))
def TWatchAct.size (c : TWatchAct) : Nat := 0
structure TWrite where
  Key : Str
  Val : Str
  Gone : Bool
deriving DecidableEq, Inhabited
def TWrite.cs (c : TWrite) : List AV := [AV.str c.Key, AV.str c.Val, AV.bool c.Gone]
theorem TWrite.flat (c : TWrite) : ∀ x ∈ c.cs, Flat x := (flatl_cons (flat_str _) (flatl_cons (flat_str _) (flatl_cons (flat_bool _) flatl_nil)))
def TWrite.size (c : TWrite) : Nat := c.Key.length + c.Val.length
def TWrite.ok (c : TWrite) : Prop := c.Key.length ≤ 9223372036854775807 ∧ c.Val.length ≤ 9223372036854775807
structure TRec where
  Kind : Int
  Txn : Int
  Time : Int
  Lead : Int
  Reads : List Str
  Writes : List TWrite
  Yes : Bool
deriving DecidableEq, Inhabited
def TRec.cs (c : TRec) : List AV := [AV.int c.Kind, AV.int c.Txn, AV.int c.Time, AV.int c.Lead, strs c.Reads, AV.list 3 (c.Writes.map TWrite.cs), AV.bool c.Yes]
def TRec.size (c : TRec) : Nat := sizeL (fun x => x.length) c.Reads + sizeL TWrite.size c.Writes
def TRec.ok (c : TRec) : Prop := (∀ x ∈ c.Reads, x.length ≤ 9223372036854775807) ∧ (∀ x ∈ c.Writes, x.ok)
structure TEntry where
  Term : Int
  Rec : TRec
deriving DecidableEq, Inhabited
def TEntry.cs (c : TEntry) : List AV := [AV.int c.Term, AV.int c.Rec.Kind, AV.int c.Rec.Txn, AV.int c.Rec.Time, AV.int c.Rec.Lead, strs c.Rec.Reads, AV.list 3 (c.Rec.Writes.map TWrite.cs), AV.bool c.Rec.Yes]
def TEntry.size (c : TEntry) : Nat := c.Rec.size
def TEntry.ok (c : TEntry) : Prop := c.Rec.ok
structure TDisk where
  Kept : Str
  Loose : Str
deriving DecidableEq, Inhabited
def TDisk.cs (c : TDisk) : List AV := [AV.str c.Kept, AV.str c.Loose]
theorem TDisk.flat (c : TDisk) : ∀ x ∈ c.cs, Flat x := (flatl_cons (flat_str _) (flatl_cons (flat_str _) flatl_nil))
def TDisk.size (c : TDisk) : Nat := c.Kept.length + c.Loose.length
def TDisk.ok (c : TDisk) : Prop := c.Kept.length ≤ 9223372036854775807 ∧ c.Loose.length ≤ 9223372036854775807
structure TReplica where
  Up : Bool
  Log : List TEntry
  Sure : Int
deriving DecidableEq, Inhabited
def TReplica.cs (c : TReplica) : List AV := [AV.bool c.Up, AV.list 8 (c.Log.map TEntry.cs), AV.int c.Sure]
def TReplica.size (c : TReplica) : Nat := sizeL TEntry.size c.Log
def TReplica.ok (c : TReplica) : Prop := (∀ x ∈ c.Log, x.ok)
structure TGroup where
  Reps : List TReplica
  Term : Int
  Lead : Int
deriving DecidableEq, Inhabited
def TGroup.cs (c : TGroup) : List AV := [AV.list 3 (c.Reps.map TReplica.cs), AV.int c.Term, AV.int c.Lead]
def TGroup.size (c : TGroup) : Nat := sizeL TReplica.size c.Reps
def TGroup.ok (c : TGroup) : Prop := (∀ x ∈ c.Reps, x.ok)
structure THouse where
  Group : TGroup
  Disks : List TDisk
deriving DecidableEq, Inhabited
def THouse.cs (c : THouse) : List AV := [AV.list 3 (c.Group.Reps.map TReplica.cs), AV.int c.Group.Term, AV.int c.Group.Lead, AV.list 2 (c.Disks.map TDisk.cs)]
def THouse.size (c : THouse) : Nat := c.Group.size + sizeL TDisk.size c.Disks
def THouse.ok (c : THouse) : Prop := c.Group.ok ∧ (∀ x ∈ c.Disks, x.ok)
structure TGroupAct where
  Kind : Int
  Rep : Int
  Rec : TRec
deriving DecidableEq, Inhabited
def TGroupAct.cs (c : TGroupAct) : List AV := [AV.int c.Kind, AV.int c.Rep, AV.int c.Rec.Kind, AV.int c.Rec.Txn, AV.int c.Rec.Time, AV.int c.Rec.Lead, strs c.Rec.Reads, AV.list 3 (c.Rec.Writes.map TWrite.cs), AV.bool c.Rec.Yes]
def TGroupAct.size (c : TGroupAct) : Nat := c.Rec.size
def TGroupAct.ok (c : TGroupAct) : Prop := c.Rec.ok
structure THouseAct where
  Kind : Int
  Rep : Int
  Rec : TRec
  Keep : Int
  Torn : Bool
deriving DecidableEq, Inhabited
def THouseAct.cs (c : THouseAct) : List AV := [AV.int c.Kind, AV.int c.Rep, AV.int c.Rec.Kind, AV.int c.Rec.Txn, AV.int c.Rec.Time, AV.int c.Rec.Lead, strs c.Rec.Reads, AV.list 3 (c.Rec.Writes.map TWrite.cs), AV.bool c.Rec.Yes, AV.int c.Keep, AV.bool c.Torn]
def THouseAct.size (c : THouseAct) : Nat := c.Rec.size
def THouseAct.ok (c : THouseAct) : Prop := c.Rec.ok
structure TLock where
  Key : Str
  Txn : Int
  Write : Bool
deriving DecidableEq, Inhabited
def TLock.cs (c : TLock) : List AV := [AV.str c.Key, AV.int c.Txn, AV.bool c.Write]
theorem TLock.flat (c : TLock) : ∀ x ∈ c.cs, Flat x := (flatl_cons (flat_str _) (flatl_cons (flat_ik _ _) (flatl_cons (flat_bool _) flatl_nil)))
def TLock.size (c : TLock) : Nat := c.Key.length
def TLock.ok (c : TLock) : Prop := c.Key.length ≤ 9223372036854775807
structure TVer where
  Time : Int
  Val : Str
  Gone : Bool
deriving DecidableEq, Inhabited
def TVer.cs (c : TVer) : List AV := [AV.int c.Time, AV.str c.Val, AV.bool c.Gone]
theorem TVer.flat (c : TVer) : ∀ x ∈ c.cs, Flat x := (flatl_cons (flat_ik _ _) (flatl_cons (flat_str _) (flatl_cons (flat_bool _) flatl_nil)))
def TVer.size (c : TVer) : Nat := c.Val.length
def TVer.ok (c : TVer) : Prop := c.Val.length ≤ 9223372036854775807
structure TCell where
  Key : Str
  Vers : List TVer
deriving DecidableEq, Inhabited
def TCell.cs (c : TCell) : List AV := [AV.str c.Key, AV.list 3 (c.Vers.map TVer.cs)]
def TCell.size (c : TCell) : Nat := c.Key.length + sizeL TVer.size c.Vers
def TCell.ok (c : TCell) : Prop := c.Key.length ≤ 9223372036854775807 ∧ (∀ x ∈ c.Vers, x.ok)
structure THeld where
  Txn : Int
  Time : Int
  Lead : Int
  Reads : List Str
  Writes : List TWrite
deriving DecidableEq, Inhabited
def THeld.cs (c : THeld) : List AV := [AV.int c.Txn, AV.int c.Time, AV.int c.Lead, strs c.Reads, AV.list 3 (c.Writes.map TWrite.cs)]
def THeld.size (c : THeld) : Nat := sizeL (fun x => x.length) c.Reads + sizeL TWrite.size c.Writes
def THeld.ok (c : THeld) : Prop := (∀ x ∈ c.Reads, x.length ≤ 9223372036854775807) ∧ (∀ x ∈ c.Writes, x.ok)
structure TTold where
  Txn : Int
  Yes : Bool
  Time : Int
deriving DecidableEq, Inhabited
def TTold.cs (c : TTold) : List AV := [AV.int c.Txn, AV.bool c.Yes, AV.int c.Time]
theorem TTold.flat (c : TTold) : ∀ x ∈ c.cs, Flat x := (flatl_cons (flat_ik _ _) (flatl_cons (flat_bool _) (flatl_cons (flat_ik _ _) flatl_nil)))
def TTold.size (c : TTold) : Nat := 0
structure TState where
  Floor : Int
  Cells : List TCell
  Held : List THeld
  Told : List TTold
deriving DecidableEq, Inhabited
def TState.cs (c : TState) : List AV := [AV.int c.Floor, AV.list 2 (c.Cells.map TCell.cs), AV.list 5 (c.Held.map THeld.cs), AV.list 3 (c.Told.map TTold.cs)]
def TState.size (c : TState) : Nat := sizeL TCell.size c.Cells + sizeL THeld.size c.Held + c.Told.length
def TState.ok (c : TState) : Prop := (∀ x ∈ c.Cells, x.ok) ∧ (∀ x ∈ c.Held, x.ok)
structure TSpan where
  Low : Int
  High : Int
deriving DecidableEq, Inhabited
def TSpan.cs (c : TSpan) : List AV := [AV.int c.Low, AV.int c.High]
theorem TSpan.flat (c : TSpan) : ∀ x ∈ c.cs, Flat x := (flatl_cons (flat_ik _ _) (flatl_cons (flat_ik _ _) flatl_nil))
def TSpan.size (c : TSpan) : Nat := 0
structure TOrder where
  Txn : Int
  Reads : List Str
  Writes : List TWrite
deriving DecidableEq, Inhabited
def TOrder.cs (c : TOrder) : List AV := [AV.int c.Txn, strs c.Reads, AV.list 3 (c.Writes.map TWrite.cs)]
def TOrder.size (c : TOrder) : Nat := sizeL (fun x => x.length) c.Reads + sizeL TWrite.size c.Writes
def TOrder.ok (c : TOrder) : Prop := (∀ x ∈ c.Reads, x.length ≤ 9223372036854775807) ∧ (∀ x ∈ c.Writes, x.ok)
structure TDeal where
  Cuts : List Str
  States : List TState
  Orders : List TOrder
deriving DecidableEq, Inhabited
def TDeal.cs (c : TDeal) : List AV := [strs c.Cuts, AV.list 4 (c.States.map TState.cs), AV.list 3 (c.Orders.map TOrder.cs)]
def TDeal.size (c : TDeal) : Nat := sizeL (fun x => x.length) c.Cuts + sizeL TState.size c.States + sizeL TOrder.size c.Orders
def TDeal.ok (c : TDeal) : Prop := (∀ x ∈ c.Cuts, x.length ≤ 9223372036854775807) ∧ (∀ x ∈ c.States, x.ok) ∧ (∀ x ∈ c.Orders, x.ok)
structure TDealAct where
  Kind : Int
  Txn : Int
  Part : Int
  Time : Int
deriving DecidableEq, Inhabited
def TDealAct.cs (c : TDealAct) : List AV := [AV.int c.Kind, AV.int c.Txn, AV.int c.Part, AV.int c.Time]
theorem TDealAct.flat (c : TDealAct) : ∀ x ∈ c.cs, Flat x := (flatl_cons (flat_ik _ _) (flatl_cons (flat_ik _ _) (flatl_cons (flat_ik _ _) (flatl_cons (flat_ik _ _) flatl_nil))))
def TDealAct.size (c : TDealAct) : Nat := 0
structure TOp where
  Kind : Int
  Key : Str
  Val : Str
  By : Int
deriving DecidableEq, Inhabited
def TOp.cs (c : TOp) : List AV := [AV.int c.Kind, AV.str c.Key, AV.str c.Val, AV.int c.By]
theorem TOp.flat (c : TOp) : ∀ x ∈ c.cs, Flat x := (flatl_cons (flat_ik _ _) (flatl_cons (flat_str _) (flatl_cons (flat_str _) (flatl_cons (flat_ik _ _) flatl_nil))))
def TOp.size (c : TOp) : Nat := c.Key.length + c.Val.length
def TOp.ok (c : TOp) : Prop := c.Key.length ≤ 9223372036854775807 ∧ c.Val.length ≤ 9223372036854775807
structure TGot where
  Key : Str
  Val : Str
  There : Bool
deriving DecidableEq, Inhabited
def TGot.cs (c : TGot) : List AV := [AV.str c.Key, AV.str c.Val, AV.bool c.There]
theorem TGot.flat (c : TGot) : ∀ x ∈ c.cs, Flat x := (flatl_cons (flat_str _) (flatl_cons (flat_str _) (flatl_cons (flat_bool _) flatl_nil)))
def TGot.size (c : TGot) : Nat := c.Key.length + c.Val.length
def TGot.ok (c : TGot) : Prop := c.Key.length ≤ 9223372036854775807 ∧ c.Val.length ≤ 9223372036854775807
structure TWorldTxn where
  Ops : List TOp
  Got : List TGot
  Terms : List Int
  Begin : Int
  End : Int
  Yes : Bool
  Time : Int
  Dead : Bool
  Put : Bool
  Stopped : Bool
deriving DecidableEq, Inhabited
def TWorldTxn.cs (c : TWorldTxn) : List AV := [AV.list 4 (c.Ops.map TOp.cs), AV.list 3 (c.Got.map TGot.cs), ints c.Terms, AV.int c.Begin, AV.int c.End, AV.bool c.Yes, AV.int c.Time, AV.bool c.Dead, AV.bool c.Put, AV.bool c.Stopped]
def TWorldTxn.size (c : TWorldTxn) : Nat := sizeL TOp.size c.Ops + sizeL TGot.size c.Got + c.Terms.length
def TWorldTxn.ok (c : TWorldTxn) : Prop := (∀ x ∈ c.Ops, x.ok) ∧ (∀ x ∈ c.Got, x.ok)
structure TWorldLook where
  Node : Int
  Keys : List Str
  Got : List TGot
  Time : Int
  Begin : Int
  End : Int
deriving DecidableEq, Inhabited
def TWorldLook.cs (c : TWorldLook) : List AV := [AV.int c.Node, strs c.Keys, AV.list 3 (c.Got.map TGot.cs), AV.int c.Time, AV.int c.Begin, AV.int c.End]
def TWorldLook.size (c : TWorldLook) : Nat := sizeL (fun x => x.length) c.Keys + sizeL TGot.size c.Got
def TWorldLook.ok (c : TWorldLook) : Prop := (∀ x ∈ c.Keys, x.length ≤ 9223372036854775807) ∧ (∀ x ∈ c.Got, x.ok)
structure TWorld where
  Now : Int
  Count : Int
  Clocks : List TClock
  Cuts : List Str
  Groups : List TGroup
  Locks : List (List TLock)
  Promised : List Int
  Txns : List TWorldTxn
  Looks : List TWorldLook
deriving DecidableEq, Inhabited
def TWorld.cs (c : TWorld) : List AV := [AV.int c.Now, AV.int c.Count, AV.list 1 (c.Clocks.map TClock.cs), strs c.Cuts, AV.list 3 (c.Groups.map TGroup.cs), AV.list 1 (c.Locks.map fun x => [AV.list 3 (x.map TLock.cs)]), ints c.Promised, AV.list 10 (c.Txns.map TWorldTxn.cs), AV.list 6 (c.Looks.map TWorldLook.cs)]
def TWorld.size (c : TWorld) : Nat := c.Clocks.length + sizeL (fun x => x.length) c.Cuts + sizeL TGroup.size c.Groups + sizeL (fun x => sizeL TLock.size x) c.Locks + c.Promised.length + sizeL TWorldTxn.size c.Txns + sizeL TWorldLook.size c.Looks
def TWorld.ok (c : TWorld) : Prop := (∀ x ∈ c.Cuts, x.length ≤ 9223372036854775807) ∧ (∀ x ∈ c.Groups, x.ok) ∧ (∀ x ∈ c.Locks, (∀ y ∈ x, y.ok)) ∧ (∀ x ∈ c.Txns, x.ok) ∧ (∀ x ∈ c.Looks, x.ok)
structure TWorldAct where
  Kind : Int
  At : Int
  By : Int
deriving DecidableEq, Inhabited
def TWorldAct.cs (c : TWorldAct) : List AV := [AV.int c.Kind, AV.int c.At, AV.int c.By]
theorem TWorldAct.flat (c : TWorldAct) : ∀ x ∈ c.cs, Flat x := (flatl_cons (flat_ik _ _) (flatl_cons (flat_ik _ _) (flatl_cons (flat_ik _ _) flatl_nil)))
def TWorldAct.size (c : TWorldAct) : Nat := 0
structure TDeed where
  Txn : Int
  Begin : Int
  End : Int
  Yes : Bool
  Look : Bool
  Time : Int
  Got : List TGot
  Writes : List TWrite
deriving DecidableEq, Inhabited
def TDeed.cs (c : TDeed) : List AV := [AV.int c.Txn, AV.int c.Begin, AV.int c.End, AV.bool c.Yes, AV.bool c.Look, AV.int c.Time, AV.list 3 (c.Got.map TGot.cs), AV.list 3 (c.Writes.map TWrite.cs)]
def TDeed.size (c : TDeed) : Nat := sizeL TGot.size c.Got + sizeL TWrite.size c.Writes
def TDeed.ok (c : TDeed) : Prop := (∀ x ∈ c.Got, x.ok) ∧ (∀ x ∈ c.Writes, x.ok)
structure TPlaces where
  Ver : Int
  Cuts : List Str
  Groups : List Int
deriving DecidableEq, Inhabited
def TPlaces.cs (c : TPlaces) : List AV := [AV.int c.Ver, strs c.Cuts, ints c.Groups]
def TPlaces.size (c : TPlaces) : Nat := sizeL (fun x => x.length) c.Cuts + c.Groups.length
def TPlaces.ok (c : TPlaces) : Prop := (∀ x ∈ c.Cuts, x.length ≤ 9223372036854775807)
structure TAtlas where
  Maps : List TPlaces
  Knows : List Int
deriving DecidableEq, Inhabited
def TAtlas.cs (c : TAtlas) : List AV := [AV.list 3 (c.Maps.map TPlaces.cs), ints c.Knows]
def TAtlas.size (c : TAtlas) : Nat := sizeL TPlaces.size c.Maps + c.Knows.length
def TAtlas.ok (c : TAtlas) : Prop := (∀ x ∈ c.Maps, x.ok)
structure TMove where
  Low : Str
  High : Str
  Phase : Int
  From : List TWrite
  To : List TWrite
  Last : Str
  Over : Bool
deriving DecidableEq, Inhabited
def TMove.cs (c : TMove) : List AV := [AV.str c.Low, AV.str c.High, AV.int c.Phase, AV.list 3 (c.From.map TWrite.cs), AV.list 3 (c.To.map TWrite.cs), AV.str c.Last, AV.bool c.Over]
def TMove.size (c : TMove) : Nat := c.Low.length + c.High.length + sizeL TWrite.size c.From + sizeL TWrite.size c.To + c.Last.length
def TMove.ok (c : TMove) : Prop := c.Low.length ≤ 9223372036854775807 ∧ c.High.length ≤ 9223372036854775807 ∧ (∀ x ∈ c.From, x.ok) ∧ (∀ x ∈ c.To, x.ok) ∧ c.Last.length ≤ 9223372036854775807
structure TMoveAct where
  Kind : Int
  Write : TWrite
  Many : Int
deriving DecidableEq, Inhabited
def TMoveAct.cs (c : TMoveAct) : List AV := [AV.int c.Kind, AV.str c.Write.Key, AV.str c.Write.Val, AV.bool c.Write.Gone, AV.int c.Many]
theorem TMoveAct.flat (c : TMoveAct) : ∀ x ∈ c.cs, Flat x := (flatl_cons (flat_ik _ _) (flatl_cons (flat_str _) (flatl_cons (flat_str _) (flatl_cons (flat_bool _) (flatl_cons (flat_ik _ _) flatl_nil)))))
def TMoveAct.size (c : TMoveAct) : Nat := c.Write.size
def TMoveAct.ok (c : TMoveAct) : Prop := c.Write.ok
structure TFeedItem where
  Time : Int
  Group : Int
  Key : Str
  Val : Str
  Gone : Bool
deriving DecidableEq, Inhabited
def TFeedItem.cs (c : TFeedItem) : List AV := [AV.int c.Time, AV.int c.Group, AV.str c.Key, AV.str c.Val, AV.bool c.Gone]
theorem TFeedItem.flat (c : TFeedItem) : ∀ x ∈ c.cs, Flat x := (flatl_cons (flat_ik _ _) (flatl_cons (flat_ik _ _) (flatl_cons (flat_str _) (flatl_cons (flat_str _) (flatl_cons (flat_bool _) flatl_nil)))))
def TFeedItem.size (c : TFeedItem) : Nat := c.Key.length + c.Val.length
def TFeedItem.ok (c : TFeedItem) : Prop := c.Key.length ≤ 9223372036854775807 ∧ c.Val.length ≤ 9223372036854775807
structure TFeeder where
  Done : Int
deriving DecidableEq, Inhabited
def TFeeder.cs (c : TFeeder) : List AV := [AV.int c.Done]
theorem TFeeder.flat (c : TFeeder) : ∀ x ∈ c.cs, Flat x := (flatl_cons (flat_ik _ _) flatl_nil)
def TFeeder.size (c : TFeeder) : Nat := 0
structure TIdx where
  Name : Str
  Col : Int
  Stage : Int
deriving DecidableEq, Inhabited
def TIdx.cs (c : TIdx) : List AV := [AV.str c.Name, AV.int c.Col, AV.int c.Stage]
theorem TIdx.flat (c : TIdx) : ∀ x ∈ c.cs, Flat x := (flatl_cons (flat_str _) (flatl_cons (flat_ik _ _) (flatl_cons (flat_ik _ _) flatl_nil)))
def TIdx.size (c : TIdx) : Nat := c.Name.length
def TIdx.ok (c : TIdx) : Prop := c.Name.length ≤ 9223372036854775807
structure TTable where
  Name : Str
  Cols : List Str
  Idxs : List TIdx
deriving DecidableEq, Inhabited
def TTable.cs (c : TTable) : List AV := [AV.str c.Name, strs c.Cols, AV.list 3 (c.Idxs.map TIdx.cs)]
def TTable.size (c : TTable) : Nat := c.Name.length + sizeL (fun x => x.length) c.Cols + sizeL TIdx.size c.Idxs
def TTable.ok (c : TTable) : Prop := c.Name.length ≤ 9223372036854775807 ∧ (∀ x ∈ c.Cols, x.length ≤ 9223372036854775807) ∧ (∀ x ∈ c.Idxs, x.ok)
structure TRow where
  Vals : List Str
deriving DecidableEq, Inhabited
def TRow.cs (c : TRow) : List AV := [strs c.Vals]
def TRow.size (c : TRow) : Nat := sizeL (fun x => x.length) c.Vals
def TRow.ok (c : TRow) : Prop := (∀ x ∈ c.Vals, x.length ≤ 9223372036854775807)
structure TRowAct where
  Kind : Int
  Old : TRow
  New : TRow
deriving DecidableEq, Inhabited
def TRowAct.cs (c : TRowAct) : List AV := [AV.int c.Kind, strs c.Old.Vals, strs c.New.Vals]
def TRowAct.size (c : TRowAct) : Nat := c.Old.size + c.New.size
def TRowAct.ok (c : TRowAct) : Prop := c.Old.ok ∧ c.New.ok
structure TShift where
  Name : Str
  Ways : List TTable
  At : List Int
  Store : List TWrite
deriving DecidableEq, Inhabited
def TShift.cs (c : TShift) : List AV := [AV.str c.Name, AV.list 3 (c.Ways.map TTable.cs), ints c.At, AV.list 3 (c.Store.map TWrite.cs)]
def TShift.size (c : TShift) : Nat := c.Name.length + sizeL TTable.size c.Ways + c.At.length + sizeL TWrite.size c.Store
def TShift.ok (c : TShift) : Prop := c.Name.length ≤ 9223372036854775807 ∧ (∀ x ∈ c.Ways, x.ok) ∧ (∀ x ∈ c.Store, x.ok)
structure TShiftAct where
  Server : Int
  Step : Int
  Act : TRowAct
deriving DecidableEq, Inhabited
def TShiftAct.cs (c : TShiftAct) : List AV := [AV.int c.Server, AV.int c.Step, AV.int c.Act.Kind, strs c.Act.Old.Vals, strs c.Act.New.Vals]
def TShiftAct.size (c : TShiftAct) : Nat := c.Act.size
def TShiftAct.ok (c : TShiftAct) : Prop := c.Act.ok
structure TVLease where
  Ver : Int
  Until : Int
deriving DecidableEq, Inhabited
def TVLease.cs (c : TVLease) : List AV := [AV.int c.Ver, AV.int c.Until]
theorem TVLease.flat (c : TVLease) : ∀ x ∈ c.cs, Flat x := (flatl_cons (flat_ik _ _) (flatl_cons (flat_ik _ _) flatl_nil))
def TVLease.size (c : TVLease) : Nat := 0
structure TRenew where
  Now : Int
  Master : TClock
  Clocks : List TClock
  Ver : Int
  Leases : List TVLease
deriving DecidableEq, Inhabited
def TRenew.cs (c : TRenew) : List AV := [AV.int c.Now, AV.int c.Master.Off, AV.list 1 (c.Clocks.map TClock.cs), AV.int c.Ver, AV.list 2 (c.Leases.map TVLease.cs)]
def TRenew.size (c : TRenew) : Nat := c.Clocks.length + c.Leases.length
structure TRenewAct where
  Kind : Int
  Who : Int
  By : Int
deriving DecidableEq, Inhabited
def TRenewAct.cs (c : TRenewAct) : List AV := [AV.int c.Kind, AV.int c.Who, AV.int c.By]
theorem TRenewAct.flat (c : TRenewAct) : ∀ x ∈ c.cs, Flat x := (flatl_cons (flat_ik _ _) (flatl_cons (flat_ik _ _) (flatl_cons (flat_ik _ _) flatl_nil)))
def TRenewAct.size (c : TRenewAct) : Nat := 0
structure TFill where
  Last : Str
  Over : Bool
deriving DecidableEq, Inhabited
def TFill.cs (c : TFill) : List AV := [AV.str c.Last, AV.bool c.Over]
theorem TFill.flat (c : TFill) : ∀ x ∈ c.cs, Flat x := (flatl_cons (flat_str _) (flatl_cons (flat_bool _) flatl_nil))
def TFill.size (c : TFill) : Nat := c.Last.length
def TFill.ok (c : TFill) : Prop := c.Last.length ≤ 9223372036854775807
structure TWork where
  Shift : TShift
  Up : TFill
  Down : TFill
deriving DecidableEq, Inhabited
def TWork.cs (c : TWork) : List AV := [AV.str c.Shift.Name, AV.list 3 (c.Shift.Ways.map TTable.cs), ints c.Shift.At, AV.list 3 (c.Shift.Store.map TWrite.cs), AV.str c.Up.Last, AV.bool c.Up.Over, AV.str c.Down.Last, AV.bool c.Down.Over]
def TWork.size (c : TWork) : Nat := c.Shift.size + c.Up.size + c.Down.size
def TWork.ok (c : TWork) : Prop := c.Shift.ok ∧ c.Up.ok ∧ c.Down.ok
structure TWorkAct where
  Kind : Int
  Many : Int
  Act : TShiftAct
deriving DecidableEq, Inhabited
def TWorkAct.cs (c : TWorkAct) : List AV := [AV.int c.Kind, AV.int c.Many, AV.int c.Act.Server, AV.int c.Act.Step, AV.int c.Act.Act.Kind, strs c.Act.Act.Old.Vals, strs c.Act.Act.New.Vals]
def TWorkAct.size (c : TWorkAct) : Nat := c.Act.size
def TWorkAct.ok (c : TWorkAct) : Prop := c.Act.ok
structure TStmt where
  Kind : Int
  Act : TRowAct
  Idx : Str
  Low : Str
  High : Str
deriving DecidableEq, Inhabited
def TStmt.cs (c : TStmt) : List AV := [AV.int c.Kind, AV.int c.Act.Kind, strs c.Act.Old.Vals, strs c.Act.New.Vals, AV.str c.Idx, AV.str c.Low, AV.str c.High]
def TStmt.size (c : TStmt) : Nat := c.Act.size + c.Idx.length + c.Low.length + c.High.length
def TStmt.ok (c : TStmt) : Prop := c.Act.ok ∧ c.Idx.length ≤ 9223372036854775807 ∧ c.Low.length ≤ 9223372036854775807 ∧ c.High.length ≤ 9223372036854775807
structure TCopy where
  Time : Int
  Rows : List TWrite
deriving DecidableEq, Inhabited
def TCopy.cs (c : TCopy) : List AV := [AV.int c.Time, AV.list 3 (c.Rows.map TWrite.cs)]
def TCopy.size (c : TCopy) : Nat := sizeL TWrite.size c.Rows
def TCopy.ok (c : TCopy) : Prop := (∀ x ∈ c.Rows, x.ok)
structure TDiff where
  From : Int
  To : Int
  List_ : List TFeedItem
deriving DecidableEq, Inhabited
def TDiff.cs (c : TDiff) : List AV := [AV.int c.From, AV.int c.To, AV.list 5 (c.List_.map TFeedItem.cs)]
def TDiff.size (c : TDiff) : Nat := sizeL TFeedItem.size c.List_
def TDiff.ok (c : TDiff) : Prop := (∀ x ∈ c.List_, x.ok)
structure TLiveJob where
  Ver : Int
  Fill : Bool
  Act : TRowAct
  Row : TRow
deriving DecidableEq, Inhabited
def TLiveJob.cs (c : TLiveJob) : List AV := [AV.int c.Ver, AV.bool c.Fill, AV.int c.Act.Kind, strs c.Act.Old.Vals, strs c.Act.New.Vals, strs c.Row.Vals]
def TLiveJob.size (c : TLiveJob) : Nat := c.Act.size + c.Row.size
def TLiveJob.ok (c : TLiveJob) : Prop := c.Act.ok ∧ c.Row.ok
structure TLive where
  Name : Str
  Ways : List TTable
  Low : Int
  Since : List Int
  Jobs : List TLiveJob
  World : TWorld
deriving DecidableEq, Inhabited
def TLive.cs (c : TLive) : List AV := [AV.str c.Name, AV.list 3 (c.Ways.map TTable.cs), AV.int c.Low, ints c.Since, AV.list 6 (c.Jobs.map TLiveJob.cs), AV.int c.World.Now, AV.int c.World.Count, AV.list 1 (c.World.Clocks.map TClock.cs), strs c.World.Cuts, AV.list 3 (c.World.Groups.map TGroup.cs), AV.list 1 (c.World.Locks.map fun x => [AV.list 3 (x.map TLock.cs)]), ints c.World.Promised, AV.list 10 (c.World.Txns.map TWorldTxn.cs), AV.list 6 (c.World.Looks.map TWorldLook.cs)]
def TLive.size (c : TLive) : Nat := c.Name.length + sizeL TTable.size c.Ways + c.Since.length + sizeL TLiveJob.size c.Jobs + c.World.size
def TLive.ok (c : TLive) : Prop := c.Name.length ≤ 9223372036854775807 ∧ (∀ x ∈ c.Ways, x.ok) ∧ (∀ x ∈ c.Jobs, x.ok) ∧ c.World.ok
structure TLiveAct where
  Kind : Int
  Act : TWorldAct
deriving DecidableEq, Inhabited
def TLiveAct.cs (c : TLiveAct) : List AV := [AV.int c.Kind, AV.int c.Act.Kind, AV.int c.Act.At, AV.int c.Act.By]
theorem TLiveAct.flat (c : TLiveAct) : ∀ x ∈ c.cs, Flat x := (flatl_cons (flat_ik _ _) (flatl_cons (flat_ik _ _) (flatl_cons (flat_ik _ _) (flatl_cons (flat_ik _ _) flatl_nil))))
def TLiveAct.size (c : TLiveAct) : Nat := 0
structure TLetter where
  From : Int
  To : Int
  Due : Int
  Body : Str
deriving DecidableEq, Inhabited
def TLetter.cs (c : TLetter) : List AV := [AV.int c.From, AV.int c.To, AV.int c.Due, AV.str c.Body]
theorem TLetter.flat (c : TLetter) : ∀ x ∈ c.cs, Flat x := (flatl_cons (flat_ik _ _) (flatl_cons (flat_ik _ _) (flatl_cons (flat_ik _ _) (flatl_cons (flat_str _) flatl_nil))))
def TLetter.size (c : TLetter) : Nat := c.Body.length
def TLetter.ok (c : TLetter) : Prop := c.Body.length ≤ 9223372036854775807
structure TNet where
  Now : Int
  Homes : List Int
  Far : Int
  Under : List TLetter
deriving DecidableEq, Inhabited
def TNet.cs (c : TNet) : List AV := [AV.int c.Now, ints c.Homes, AV.int c.Far, AV.list 4 (c.Under.map TLetter.cs)]
def TNet.size (c : TNet) : Nat := c.Homes.length + sizeL TLetter.size c.Under
def TNet.ok (c : TNet) : Prop := (∀ x ∈ c.Under, x.ok)
structure TVoter where
  Up : Bool
  Term : Int
  For : Int
  Yes : List Int
  Leads : Bool
deriving DecidableEq, Inhabited
def TVoter.cs (c : TVoter) : List AV := [AV.bool c.Up, AV.int c.Term, AV.int c.For, ints c.Yes, AV.bool c.Leads]
def TVoter.size (c : TVoter) : Nat := c.Yes.length
structure TWon where
  Term : Int
  Who : Int
deriving DecidableEq, Inhabited
def TWon.cs (c : TWon) : List AV := [AV.int c.Term, AV.int c.Who]
theorem TWon.flat (c : TWon) : ∀ x ∈ c.cs, Flat x := (flatl_cons (flat_ik _ _) (flatl_cons (flat_ik _ _) flatl_nil))
def TWon.size (c : TWon) : Nat := 0
structure TPoll where
  Voters : List TVoter
  Net : TNet
  Won : List TWon
deriving DecidableEq, Inhabited
def TPoll.cs (c : TPoll) : List AV := [AV.list 5 (c.Voters.map TVoter.cs), AV.int c.Net.Now, ints c.Net.Homes, AV.int c.Net.Far, AV.list 4 (c.Net.Under.map TLetter.cs), AV.list 2 (c.Won.map TWon.cs)]
def TPoll.size (c : TPoll) : Nat := sizeL TVoter.size c.Voters + c.Net.size + c.Won.length
def TPoll.ok (c : TPoll) : Prop := c.Net.ok
structure TPollAct where
  Kind : Int
  Who : Int
  By : Int
deriving DecidableEq, Inhabited
def TPollAct.cs (c : TPollAct) : List AV := [AV.int c.Kind, AV.int c.Who, AV.int c.By]
theorem TPollAct.flat (c : TPollAct) : ∀ x ∈ c.cs, Flat x := (flatl_cons (flat_ik _ _) (flatl_cons (flat_ik _ _) (flatl_cons (flat_ik _ _) flatl_nil)))
def TPollAct.size (c : TPollAct) : Nat := 0
end Go.M

namespace Go.M

def within (n lo hi : Int) : Bool := decide (lo ≤ n) && decide (n ≤ hi)
def lowDig (b : UInt8) : Bool := (decide ((97 : Int) ≤ (b.toNat : Int)) && decide ((b.toNat : Int) ≤ 122)) || (decide ((48 : Int) ≤ (b.toNat : Int)) && decide ((b.toNat : Int) ≤ 57))
def idxB (s : Str) (c : UInt8) : Int := firstIdx ⟨s.toArray⟩ c
def hasB (s o : Str) : Bool := s.all fun c => !(!lowDig c && decide (idxB o c < 0))
def goodKey (s : Str) : Bool := within s.length 1 12 && hasB s [46, 47]
def goodVal (s : Str) : Bool := decide ((s.length : Int) ≤ 24) && hasB s [46, 45, 44, 95]
def l3Bytes (s o : Str) : Bool := s.all fun c => (lowDig c || o.any fun d => ((c.toNat : Int) == (d.toNat : Int)))
def l3Key (s : Str) : Bool := within s.length 1 12 && l3Bytes s [46, 47]
theorem hasB_cons (c : UInt8) (s o : Str) : hasB (c :: s) o = (!(!lowDig c && decide (idxB o c < 0)) && hasB s o) := rfl
theorem l3Bytes_cons (c : UInt8) (s o : Str) : l3Bytes (c :: s) o = ((lowDig c || o.any fun d => ((c.toNat : Int) == (d.toNat : Int))) && l3Bytes s o) := rfl
end Go.M

namespace Go.M
def sLt (a b : Str) : Bool := Op.bytesLess a b
def areEnds (low high : Str) : Bool := (low == [] || goodKey low) && (high == [] || goodKey high && !(Op.bytesLess high low || high == low))
def inRange (low high key : Str) : Bool := !Op.bytesLess key low && (high == [] || Op.bytesLess key high)
def l22Ends (low high : Str) : Bool := (low == [] || l3Key low) && (high == [] || l3Key high && Op.bytesLess low high)
def isWithin (low high key : Str) : Bool × Bool := if !areEnds low high || !goodKey key then (false, false) else (inRange low high key, true)
def isWithinS (low high key : Str) : Bool × Bool := if !l22Ends low high || !l3Key key then (false, false) else (inRange low high key, true)
end Go.M

set_option linter.unusedSimpArgs false
set_option linter.unusedVariables false
namespace Go.M
theorem idxB_neg (o : Str) (c : UInt8) : decide (idxB o c < 0) = !(o.any fun d => ((c.toNat : Int) == (d.toNat : Int))) := by
  have hm : (o.any fun d => ((c.toNat : Int) == (d.toNat : Int))) = decide (c ∈ o) := by
    rw [Bool.eq_iff_iff]
    simp only [List.any_eq_true, beq_iff_eq, decide_eq_true_eq]
    constructor
    · rintro ⟨d, hd, he⟩
      have : c = d := UInt8.toNat_inj.1 (by exact_mod_cast he)
      exact this ▸ hd
    · intro h; exact ⟨c, h, rfl⟩
  rw [hm]
  unfold idxB firstIdx
  have hsz : (ByteArray.mk o.toArray).size = o.length := by simp [ByteArray.size]
  have hget : ∀ i, i < o.length → (ByteArray.mk o.toArray)[i]! = o[i]! := fun i hi => by
    simp [getElem!_def, ByteArray.getElem?_lt', hsz, hi]
    rfl
  rw [hsz]
  cases hf : (List.range o.length).find? fun i => (ByteArray.mk o.toArray)[i]! == c with
  | some i =>
    have h1 := List.find?_some hf
    have h2 := List.mem_range.1 (List.mem_of_find?_eq_some hf)
    rw [hget i h2] at h1
    have h3 : c ∈ o := by
      have : o[i]! = c := by simpa using h1
      rw [← this, getElem!_pos o i h2]
      exact List.getElem_mem h2
    simp [h3]
  | none =>
    have h1 := List.find?_eq_none.1 hf
    have h3 : ¬ c ∈ o := fun hm => by
      obtain ⟨i, hi, he⟩ := List.getElem_of_mem hm
      have := h1 i (List.mem_range.2 hi)
      rw [hget i hi, getElem!_pos o i hi, he] at this
      simp at this
    simp [h3]
theorem hasB_eq (s o : Str) : hasB s o = l3Bytes s o := by
  unfold hasB l3Bytes
  congr 1
  funext c
  rw [idxB_neg]
  cases lowDig c <;> simp
theorem goodKey_eq (s : Str) : goodKey s = l3Key s := by unfold goodKey l3Key; rw [hasB_eq]
theorem bytesLess_irrefl : ∀ a : Str, Op.bytesLess a a = false
  | [] => rfl
  | a :: x => by simp [Op.bytesLess, bytesLess_irrefl x]
theorem bytesLess_tri : ∀ a b : Str, Op.bytesLess a b = !(Op.bytesLess b a || b == a)
  | [], [] => rfl
  | [], _ :: _ => rfl
  | _ :: _, [] => rfl
  | a :: x, b :: y => by
    have ih := bytesLess_tri x y
    simp only [Op.bytesLess]
    by_cases hab : a = b
    · subst hab
      simp [ih]
    · have h1 : (a == b) = false := by simpa using hab
      have h2 : (b == a) = false := by simpa using fun h => hab h.symm
      have h3 : (b :: y == a :: x) = false := by simp [h2]
      simp only [h1, h2, h3, Bool.false_and, Bool.or_false]
      rw [Bool.eq_iff_iff]
      simp only [decide_eq_true_eq, Bool.not_eq_true', decide_eq_false_iff_not, UInt8.not_lt]
      constructor
      · exact UInt8.le_of_lt
      · exact fun h => UInt8.lt_of_le_of_ne h hab
theorem areEnds_eq (low high : Str) : areEnds low high = l22Ends low high := by
  unfold areEnds l22Ends
  rw [goodKey_eq, goodKey_eq, bytesLess_tri low high]
theorem isWithin_eq (low high key : Str) : isWithin low high key = isWithinS low high key := by
  unfold isWithin isWithinS
  rw [areEnds_eq, goodKey_eq]
end Go.M

set_option linter.unusedVariables false
namespace Go.M
/-- Each element and the one before it. -/
def adj {α : Type} (p : α → α → Bool) : List α → Bool
  | [] => true
  | [_] => true
  | x :: y :: l => p x y && adj p (y :: l)
theorem drop_two {α : Type} {l : List α} {k : Nat} {x y : α} (hy : l[k]? = some y) (hx : l[k + 1]? = some x) : l.drop k = y :: x :: l.drop (k + 2) := by
  rw [Go.AV.drop_some hy, Go.AV.drop_some hx]
theorem adj_step {α : Type} {p : α → α → Bool} {l : List α} {i : Nat} {x y : α} (hx : l[i]? = some x) (hy : l[i - 1]? = some y) (h : 0 < i → p y x = true) : adj p (l.drop (i - 1)) = adj p (l.drop (i + 1 - 1)) := by
  cases i with
  | zero => rfl
  | succ k =>
    simp only [Nat.add_sub_cancel] at *
    rw [drop_two hy hx, Go.AV.drop_some hx, adj, h (by omega), Bool.true_and]
theorem adj_stop {α : Type} {p : α → α → Bool} {l : List α} {i : Nat} {x y : α} (hx : l[i]? = some x) (hy : l[i - 1]? = some y) (h0 : 0 < i) (h : p y x = false) : adj p (l.drop (i - 1)) = false := by
  cases i with
  | zero => omega
  | succ k =>
    simp only [Nat.add_sub_cancel] at *
    rw [drop_two hy hx, adj, h, Bool.false_and]
theorem adj_end {α : Type} {p : α → α → Bool} {l : List α} {i : Nat} (h : l.length ≤ i) : adj p (l.drop (i - 1)) = true := by
  have hl : (l.drop (i - 1)).length ≤ 1 := by rw [List.length_drop]; omega
  match hd : l.drop (i - 1), hl with
  | [], _ => rfl
  | [x], _ => rfl
theorem adj_congr {α : Type} {p q : α → α → Bool} (h : ∀ a b, p a b = q a b) : ∀ l : List α, adj p l = adj q l
  | [] => rfl
  | [_] => rfl
  | x :: y :: l => by rw [adj, adj, h, adj_congr h (y :: l)]
def isTime (t : Int) : Bool := within t 1 100000
def isGroup (g : Int) : Bool := within g 0 3
def isStored (val : Str) (gone : Bool) : Bool := goodVal val && !(gone && val != [])
def goodItem (c : TFeedItem) : Bool := isTime c.Time && isGroup c.Group && goodKey c.Key && isStored c.Val c.Gone
def l3Val (s : Str) : Bool := decide ((s.length : Int) ≤ 24) && l3Bytes s [46, 45, 44, 95]
def l3Write (key val : Str) (gone : Bool) : Bool := l3Key key && l3Val val && (!gone || val == [])
def l23Good (c : TFeedItem) : Bool := within c.Time 1 100000 && within c.Group 0 3 && l3Write c.Key c.Val c.Gone
def cmpInt (x y : Int) : Int := if x < y then -1 else if y < x then 1 else 0
def cmpStr (x y : Str) : Int := if Op.bytesLess x y then -1 else if Op.bytesLess y x then 1 else 0
def orInt : List Int → Int
  | [] => 0
  | x :: l => if x = 0 then orInt l else x
def compareItems (a b : TFeedItem) : Int := orInt [cmpInt a.Time b.Time, cmpInt a.Group b.Group, cmpStr a.Key b.Key]
def l23Ahead (a b : TFeedItem) : Bool := if a.Time ≠ b.Time then decide (a.Time < b.Time) else if a.Group ≠ b.Group then decide (a.Group < b.Group) else Op.bytesLess a.Key b.Key
def isFeed (l : List TFeedItem) : Bool := adj (fun a b => !decide (0 ≤ compareItems a b)) l && decide ((l.length : Int) ≤ 400)
def goodFeed (l : List TFeedItem) : Bool := isFeed l && !(l.any fun c => !goodItem c)
def l23Feed (l : List TFeedItem) : Bool := (l.all l23Good && adj l23Ahead l) && decide ((l.length : Int) ≤ 400)
theorem goodVal_eq (s : Str) : goodVal s = l3Val s := by unfold goodVal l3Val; rw [hasB_eq]
theorem isStored_eq (s : Str) (g : Bool) : isStored s g = (l3Val s && (!g || s == [])) := by
  unfold isStored; rw [goodVal_eq]; cases g <;> simp [bne]
theorem goodItem_eq (c : TFeedItem) : goodItem c = l23Good c := by
  unfold goodItem l23Good l3Write isTime isGroup
  rw [isStored_eq, goodKey_eq]; simp only [Bool.and_assoc]
theorem compare_ahead (a b : TFeedItem) : (!decide (0 ≤ compareItems a b)) = l23Ahead a b := by
  unfold compareItems l23Ahead orInt orInt orInt orInt cmpInt cmpStr
  have := bytesLess_tri a.Key b.Key
  by_cases h1 : a.Time < b.Time
  · simp [h1, show a.Time ≠ b.Time by omega]
  · by_cases h2 : b.Time < a.Time
    · simp [h1, h2, show a.Time ≠ b.Time by omega]
    · have h3 : a.Time = b.Time := by omega
      by_cases h4 : a.Group < b.Group
      · simp [h3, h4, show a.Group ≠ b.Group by omega]
      · by_cases h5 : b.Group < a.Group
        · simp [h3, h4, h5, show a.Group ≠ b.Group by omega]
        · have h6 : a.Group = b.Group := by omega
          simp only [h3, h6, Int.lt_irrefl, ne_eq, not_true_eq_false, if_false, if_true]
          cases h7 : Op.bytesLess a.Key b.Key <;> cases h8 : Op.bytesLess b.Key a.Key <;> simp
theorem goodFeed_eq (l : List TFeedItem) : goodFeed l = l23Feed l := by
  unfold goodFeed l23Feed isFeed
  rw [adj_congr compare_ahead, show (!(l.any fun c => !goodItem c)) = l.all l23Good by
    rw [List.not_any_eq_all_not]; congr 1; funext c; rw [Bool.not_not, goodItem_eq]]
  cases l.all l23Good <;> cases adj l23Ahead l <;> simp
end Go.M

set_option linter.unusedVariables false
set_option linter.unusedSimpArgs false
set_option linter.unusedSectionVars false
namespace Go.M
open Go.AV
section
variable {α : Type} [Inhabited α]
/-- Elements i and j change places. -/
def swp (l : List α) (i j : Nat) : List α := (l.set i (l.getD j default)).set j (l.getD i default)
def swpR (l : List α) (a b : Nat) : Nat → List α
  | 0 => l
  | n + 1 => swp (swpR l a b n) (a + n) (b + n)
theorem swp_len (l : List α) (i j : Nat) : (swp l i j).length = l.length := by unfold swp; simp
theorem swpR_len (l : List α) (a b : Nat) : ∀ n, (swpR l a b n).length = l.length
  | 0 => rfl
  | n + 1 => by show (swp _ _ _).length = _; rw [swp_len, swpR_len l a b n]
theorem swp_eq {l : List α} {i j : Nat} {x y : α} (hx : l[i]? = some x) (hy : l[j]? = some y) : (l.set i y).set j x = swp l i j := by
  unfold swp
  rw [List.getD_eq_getElem?_getD, List.getD_eq_getElem?_getD, hx, hy]; rfl
theorem swp_get {l : List α} {i j : Nat} (hi : i < l.length) (hj : j < l.length) (k : Nat) : (swp l i j)[k]? = if k = j then l[i]? else if k = i then l[j]? else l[k]? := by
  have hx : l[i]? = some l[i] := List.getElem?_eq_getElem hi
  have hy : l[j]? = some l[j] := List.getElem?_eq_getElem hj
  rw [← swp_eq hx hy, hx, hy]
  by_cases h1 : k = j
  · subst h1
    rw [if_pos rfl, List.getElem?_set_self (by simpa using hj)]
  · rw [if_neg h1, List.getElem?_set_ne (fun e => h1 e.symm)]
    by_cases h2 : k = i
    · subst h2; rw [if_pos rfl, List.getElem?_set_self hi]
    · rw [if_neg h2, List.getElem?_set_ne (fun e => h2 e.symm)]
theorem swp_perm {l : List α} {i j : Nat} (hi : i < l.length) (hj : j < l.length) : (swp l i j).Perm l := by
  have hx : l[i]? = some l[i] := List.getElem?_eq_getElem hi
  have hy : l[j]? = some l[j] := List.getElem?_eq_getElem hj
  rw [← swp_eq hx hy]
  exact List.set_set_perm hi hj
structure Swo (lt : α → α → Bool) : Prop where
  asym : ∀ a b, lt a b = true → lt b a = false
  ntr : ∀ a b c, lt b a = false → lt c b = false → lt c a = false
def SortedOn (lt : α → α → Bool) (l : List α) (a b : Nat) : Prop := ∀ (i j : Nat) (x y : α), a ≤ i → i < j → j < b → l[i]? = some x → l[j]? = some y → lt y x = false
def InR (l : List α) (a b : Nat) (x : α) : Prop := ∃ i, a ≤ i ∧ i < b ∧ l[i]? = some x
/-- The same row but for a reshuffle of [a, b). -/
structure Shuf (l l' : List α) (a b : Nat) : Prop where
  len : l'.length = l.length
  perm : l'.Perm l
  out : ∀ i, i < a ∨ b ≤ i → l'[i]? = l[i]?
  inn : ∀ x, InR l' a b x → InR l a b x
theorem Shuf.refl (l : List α) (a b : Nat) : Shuf l l a b := ⟨rfl, List.Perm.refl _, fun _ _ => rfl, fun _ h => h⟩
theorem Shuf.trans {l l' l'' : List α} {a b : Nat} (h : Shuf l l' a b) (k : Shuf l' l'' a b) : Shuf l l'' a b :=
  ⟨k.len.trans h.len, k.perm.trans h.perm, fun i hi => (k.out i hi).trans (h.out i hi), fun x hx => h.inn x (k.inn x hx)⟩
theorem shuf_swp {l : List α} {a b i j : Nat} (hi : i < l.length) (hj : j < l.length) (h1 : a ≤ i ∧ i < b) (h2 : a ≤ j ∧ j < b) : Shuf l (swp l i j) a b where
  len := swp_len l i j
  perm := swp_perm hi hj
  out k hk := by rw [swp_get hi hj, if_neg (by omega), if_neg (by omega)]
  inn x hx := by
    obtain ⟨k, k1, k2, k3⟩ := hx
    rw [swp_get hi hj] at k3
    split at k3
    · exact ⟨i, h1.1, h1.2, k3⟩
    · split at k3
      · exact ⟨j, h2.1, h2.2, k3⟩
      · exact ⟨k, k1, k2, k3⟩
/-- Sorted up to i, but for the element at j, which may still have to sink. -/
def SinkOn (lt : α → α → Bool) (l : List α) (a i j : Nat) : Prop := ∀ (p q : Nat) (x y : α), a ≤ p → p < q → q ≤ i → q ≠ j → l[p]? = some x → l[q]? = some y → lt y x = false
theorem sink_start {lt : α → α → Bool} {l : List α} {a i : Nat} (h : SortedOn lt l a i) : SinkOn lt l a i i := fun p q x y h1 h2 h3 h4 hx hy => h p q x y h1 h2 (by omega) hx hy
theorem sink_step {lt : α → α → Bool} (hs : Swo lt) {l : List α} {a i j : Nat} {x y : α} (h : SinkOn lt l a i j) (hj : a < j) (hji : j ≤ i) (hx : l[j - 1]? = some x) (hy : l[j]? = some y) (hlt : lt y x = true) : SinkOn lt (swp l j (j - 1)) a i (j - 1) := by
  have hjl := (List.getElem?_eq_some_iff.1 hy).1
  intro p q u v h1 h2 h3 h4 hu hv
  rw [swp_get hjl (by omega)] at hu hv
  rw [if_neg h4] at hv
  by_cases hq : q = j
  · subst hq
    rw [if_pos rfl, hx] at hv
    injection hv with hv; subst hv
    by_cases hp : p = q - 1
    · subst hp
      rw [if_pos rfl, hy] at hu
      injection hu with hu; subst hu
      exact hs.asym _ _ hlt
    · rw [if_neg hp, if_neg (by omega)] at hu
      exact h p (q - 1) u x h1 (by omega) (by omega) (by omega) hu hx
  · rw [if_neg hq] at hv
    by_cases hp : p = j - 1
    · subst hp
      rw [if_pos rfl] at hu
      exact h j q u v (by omega) (by omega) h3 hq hu hv
    · rw [if_neg hp] at hu
      by_cases hpj : p = j
      · subst hpj
        rw [if_pos rfl] at hu
        exact h (p - 1) q u v (by omega) (by omega) h3 hq hu hv
      · rw [if_neg hpj] at hu
        exact h p q u v h1 h2 h3 hq hu hv
theorem sink_end {lt : α → α → Bool} (hs : Swo lt) {l : List α} {a i j : Nat} (h : SinkOn lt l a i j) (haj : a ≤ j) (hend : j = a ∨ ∃ x y, l[j - 1]? = some x ∧ l[j]? = some y ∧ lt y x = false) : SortedOn lt l a (i + 1) := by
  intro p q u v h1 h2 h3 hu hv
  by_cases hq : q = j
  · subst hq
    rcases hend with hend | ⟨x, y, hx, hy, hlt⟩
    · omega
    · rw [hy] at hv
      injection hv with hv; subst hv
      by_cases hp : p = q - 1
      · subst hp
        rw [hx] at hu; injection hu with hu; subst hu
        exact hlt
      · have h9 := h p (q - 1) u x h1 (by omega) (by omega) (by omega) hu hx
        exact hs.ntr _ _ _ h9 hlt
  · exact h p q u v h1 h2 (by omega) hq hu hv
theorem sorted_one {lt : α → α → Bool} (l : List α) (a : Nat) : SortedOn lt l a (a + 1) := fun p q _ _ h1 h2 h3 => by omega
end
end Go.M

set_option linter.unusedVariables false
set_option linter.unusedSimpArgs false
set_option linter.unusedSectionVars false
namespace Go.M
open Go.AV
section
variable {α : Type} [Inhabited α] [DecidableEq α]
/-- Of the first n elements those that differ from the one before. -/
def cmpN (l : List α) : Nat → List α
  | 0 => []
  | n + 1 => if n ≠ 0 ∧ l[n]? = l[n - 1]? then cmpN l n else cmpN l n ++ (l[n]?).toList
def cmpL (l : List α) : List α := cmpN l l.length
theorem cmpN_len (l : List α) : ∀ n, (cmpN l n).length ≤ n
  | 0 => Nat.le_refl _
  | n + 1 => by
    have h := cmpN_len l n
    show (if n ≠ 0 ∧ l[n]? = l[n - 1]? then cmpN l n else cmpN l n ++ (l[n]?).toList).length ≤ n + 1
    split
    · omega
    · rw [List.length_append]
      cases l[n]? <;> simp <;> omega
theorem cmpN_same {l : List α} {n : Nat} (h0 : n ≠ 0) (h : l[n]? = l[n - 1]?) : cmpN l (n + 1) = cmpN l n := if_pos ⟨h0, h⟩
theorem cmpN_diff {l : List α} {n : Nat} {x : α} (hx : l[n]? = some x) (h : n = 0 ∨ l[n]? ≠ l[n - 1]?) : cmpN l (n + 1) = cmpN l n ++ [x] := by
  show (if n ≠ 0 ∧ l[n]? = l[n - 1]? then cmpN l n else cmpN l n ++ (l[n]?).toList) = _
  rw [if_neg (fun e => h.elim (fun f => e.1 f) fun f => f e.2), hx]; rfl
theorem cmpN_take {l : List α} : ∀ {n : Nat}, n ≤ l.length → (∀ i, 1 ≤ i → i < n → l[i]? ≠ l[i - 1]?) → cmpN l n = l.take n
  | 0, _, _ => by rw [List.take_zero]; rfl
  | n + 1, hn, h => by
    have hx : l[n]? = some l[n] := List.getElem?_eq_getElem (by omega)
    rw [cmpN_diff hx (by by_cases e : n = 0; exact .inl e; exact .inr (h n (by omega) (by omega))), cmpN_take (by omega) (fun i h1 h2 => h i h1 (by omega)), List.take_add_one, hx]; rfl
theorem drop_eq_get2 {m l : List α} {i j : Nat} {x : α} (h : m.drop i = l.drop i) (hx : l[j]? = some x) (hij : i ≤ j) : m[j]? = some x := by
  have h1 := congrArg (fun z : List α => z[j - i]?) h
  simp only [List.getElem?_drop, show i + (j - i) = j by omega] at h1
  rw [h1, hx]
theorem cmp_keep {l m : List α} {k i j : Nat} {x y : α} (h : 1 ≤ j ∧ k + j ≤ l.length ∧ i + 1 ≤ k + j ∧ m.length = l.length ∧ m.take i = cmpN l (k + j) ∧ m.drop (k + j - 1) = l.drop (k + j - 1)) (hlt : k + j < l.length) (hx : l[k + j]? = some x) (hy : l[k + j - 1]? = some y) (hn : x ≠ y) :
    1 ≤ j + 1 ∧ k + (j + 1) ≤ l.length ∧ i + 1 + 1 ≤ k + (j + 1) ∧ (m.set i x).length = l.length ∧ (m.set i x).take (i + 1) = cmpN l (k + (j + 1)) ∧ (m.set i x).drop (k + (j + 1) - 1) = l.drop (k + (j + 1) - 1) := by
  obtain ⟨h1, h2, h3, h4, h5, h6⟩ := h
  refine ⟨by omega, by omega, by omega, by rw [List.length_set, h4], ?_, ?_⟩
  · rw [List.take_add_one, List.getElem?_set_self (by omega), List.take_set_of_le (Nat.le_refl _), h5, ← Nat.add_assoc, cmpN_diff hx (.inr (by rw [hx, hy]; intro e; injection e with e; exact hn e))]; rfl
  · rw [List.drop_set_of_lt (by omega), show k + (j + 1) - 1 = k + j - 1 + 1 by omega, ← List.drop_drop, h6, List.drop_drop]
theorem cmp_skip {l m : List α} {k i j : Nat} {x y : α} (h : 1 ≤ j ∧ k + j ≤ l.length ∧ i + 1 ≤ k + j ∧ m.length = l.length ∧ m.take i = cmpN l (k + j) ∧ m.drop (k + j - 1) = l.drop (k + j - 1)) (hlt : k + j < l.length) (hx : l[k + j]? = some x) (hy : l[k + j - 1]? = some y) (hn : x = y) :
    1 ≤ j + 1 ∧ k + (j + 1) ≤ l.length ∧ i + 1 ≤ k + (j + 1) ∧ m.length = l.length ∧ m.take i = cmpN l (k + (j + 1)) ∧ m.drop (k + (j + 1) - 1) = l.drop (k + (j + 1) - 1) := by
  obtain ⟨h1, h2, h3, h4, h5, h6⟩ := h
  refine ⟨by omega, by omega, by omega, h4, ?_, ?_⟩
  · rw [h5, ← Nat.add_assoc, cmpN_same (by omega) (by rw [hx, hy, hn])]
  · rw [show k + (j + 1) - 1 = k + j - 1 + 1 by omega, ← List.drop_drop, h6, List.drop_drop]
theorem cmp_end {l m : List α} {f : α → List AV} {k i j q : Nat} {z : List AV} (h : m.take i = cmpN l (k + j)) (hk : k + j = l.length) (hi : i ≤ m.length) : (((m.map f).take (i : Int).toNat ++ List.replicate q z).take (i : Int).toNat) = (cmpL l).map f := by
  unfold cmpL
  rw [← hk, ← h, Int.toNat_natCast, List.map_take, List.take_left' (by rw [List.length_take, List.length_map]; omega)]
end
end Go.M

set_option linter.unusedVariables false
namespace Go.M
/-- Each element and all before it. -/
def allPre {α : Type} (p : List α → α → Bool) : List α → List α → Bool
  | _, [] => true
  | pre, x :: l => p pre x && allPre p (pre ++ [x]) l
theorem allPre_step {α : Type} {p : List α → α → Bool} {l : List α} {i : Nat} {x : α} (hx : l[i]? = some x) (h : p (l.take i) x = true) : allPre p (l.take i) (l.drop i) = allPre p (l.take (i + 1)) (l.drop (i + 1)) := by
  rw [Go.AV.drop_some hx, allPre, h, Bool.true_and, List.take_add_one, hx]; rfl
theorem allPre_stop {α : Type} {p : List α → α → Bool} {l : List α} {i : Nat} {x : α} (hx : l[i]? = some x) (h : p (l.take i) x = false) : allPre p (l.take i) (l.drop i) = false := by
  rw [Go.AV.drop_some hx, allPre, h, Bool.false_and]
theorem allPre_end {α : Type} {p : List α → α → Bool} {l : List α} {i : Nat} (h : l.length ≤ i) : allPre p (l.take i) (l.drop i) = true := by
  rw [List.drop_eq_nil_of_le h]; rfl
theorem all_step {α : Type} {p : α → Bool} {l : List α} {i : Nat} {x : α} (hx : l[i]? = some x) (h : p x = true) : (l.drop i).all p = (l.drop (i + 1)).all p := by
  rw [Go.AV.drop_some hx, List.all_cons, h, Bool.true_and]
theorem all_stop {α : Type} {p : α → Bool} {l : List α} {i : Nat} {x : α} (hx : l[i]? = some x) (h : p x = false) : (l.drop i).all p = false := by
  rw [Go.AV.drop_some hx, List.all_cons, h, Bool.false_and]
theorem all_end {α : Type} {p : α → Bool} {l : List α} {i : Nat} (h : l.length ≤ i) : (l.drop i).all p = true := by
  rw [List.drop_eq_nil_of_le h]; rfl
def isLet (c : UInt8) : Bool := !(decide ((c.toNat : Int) < 97) || decide (122 < (c.toNat : Int)))
def letters (s : Str) (most : Int) : Bool := s.all isLet && within s.length 1 most
def isStage (t : Int) : Bool := within t 0 3
def goodCols (l : List Str) : Bool := allPre (fun pre s => letters s 3 && !(pre.any fun x => s == x)) [] l
def goodIdx (n : Int) (x : TIdx) : Bool := letters x.Name 1 && within x.Col 1 (n - 1) && within x.Stage 0 3
def lessName (a b : TIdx) : Bool := Op.bytesLess a.Name b.Name
def goodTable (t : TTable) : Bool := letters t.Name 1 && (within t.Cols.length 2 4 && goodCols t.Cols) && decide ((t.Idxs.length : Int) ≤ 3) && (t.Idxs.all (goodIdx t.Cols.length) && adj lessName t.Idxs)
def colAt (t : TTable) (c : Str) : Int × Bool :=
  let i := idxFrom (fun x => c == x) t.Cols 0
  if goodTable t = true ∧ 0 ≤ i then (i, true) else (0, false)
def l24Idx (t : TTable) (c : Str) : Int := idxFrom (fun x : TIdx => x.Name == c) t.Idxs 0
def idxAt (t : TTable) (c : Str) : TIdx × Bool :=
  if goodTable t = true ∧ 0 ≤ l24Idx t c then (match t.Idxs[(l24Idx t c).toNat]? with | some x => x | none => ⟨[], 0, 0⟩, true) else (⟨[], 0, 0⟩, false)
theorem idxFrom_le {α : Type} (p : α → Bool) : ∀ (l : List α) (k : Int), 0 ≤ k → 0 ≤ idxFrom p l k → k ≤ idxFrom p l k ∧ ∃ x, l[(idxFrom p l k - k).toNat]? = some x
  | [], k, hk, h => by simp [idxFrom] at h
  | x :: l, k, hk, h => by
    unfold idxFrom at h ⊢
    by_cases hp : p x = true
    · simp only [hp, if_true]; exact ⟨Int.le_refl _, x, by simp⟩
    · simp only [hp] at h ⊢
      obtain ⟨h1, y, h2⟩ := idxFrom_le p l (k + 1) (by omega) h
      refine ⟨by simp; omega, y, ?_⟩
      simp only [Bool.false_eq_true, if_false]
      rw [show (idxFrom p l (k + 1) - k).toNat = (idxFrom p l (k + 1) - (k + 1)).toNat + 1 by omega]
      simpa using h2
theorem idxFrom_get {α : Type} (p : α → Bool) (l : List α) (h : 0 ≤ idxFrom p l 0) : ∃ x, l[(idxFrom p l 0).toNat]? = some x := by
  have := (idxFrom_le p l 0 (Int.le_refl 0) h).2
  rwa [Int.sub_zero] at this
theorem idxFrom_congr {α : Type} {p q : α → Bool} (h : ∀ x, p x = q x) : ∀ (l : List α) (k : Int), idxFrom p l k = idxFrom q l k
  | [], _ => rfl
  | x :: l, k => by unfold idxFrom; rw [h, idxFrom_congr h l]
end Go.M

set_option linter.unusedVariables false
set_option linter.unusedSimpArgs false
namespace Go.M
theorem take_map_succ {α β : Type} {f : α → β} {l : List α} {i : Nat} {x : α} (h : l[i]? = some x) : (l.take i).map f ++ [f x] = (l.take (i + 1)).map f := by
  rw [List.take_add_one, h]; simp
def areRising (l : List Str) : Bool := l.all goodKey && adj Op.bytesLess l
def wKeys (l : List TWrite) : List Str := l.map TWrite.Key
def goodWrites (l : List TWrite) : Bool := decide ((l.length : Int) ≤ 24) && areRising (wKeys l) && !(l.any fun w => !isStored w.Val w.Gone)
def isRows (l : List TWrite) : Bool := goodWrites l && !(l.any TWrite.Gone)
def areInRange (m : TMove) (l : List TWrite) : Bool := isRows l && !(l.any fun w => !inRange m.Low m.High w.Key)
def goodMove (m : TMove) : Bool :=
  if (!areEnds m.Low m.High || !areInRange m m.From || !areInRange m m.To) = true then false
  else if m.Phase = 2 then ((m.From.length : Int) == 0) && m.Last == [] && !m.Over
  else (m.Phase == 1) && (m.Last == [] || goodKey m.Last)
def wLess (a b : TWrite) : Bool := Op.bytesLess a.Key b.Key
def wGood (w : TWrite) : Bool := l3Write w.Key w.Val w.Gone
def l3Writes (l : List TWrite) : Bool := (l.all wGood && adj wLess l) && decide ((l.length : Int) ≤ 24)
def l5Rows (l : List TWrite) : Bool := l.all (fun w => !w.Gone) && l3Writes l
def l22Rows (low high : Str) (l : List TWrite) : Bool := l.all (fun w => inRange low high w.Key) && l5Rows l
def goodMoveS (m : TMove) : Bool :=
  if (!l22Ends m.Low m.High || !within m.Phase 1 2 || !l22Rows m.Low m.High m.From || !l22Rows m.Low m.High m.To || m.Last != [] && !l3Key m.Last) = true then false
  else m.Phase == 1 || ((m.From.length : Int) == 0) && m.Last == [] && !m.Over
theorem adj_map {α β : Type} (f : α → β) (p : β → β → Bool) : ∀ l : List α, adj p (l.map f) = adj (fun a b => p (f a) (f b)) l
  | [] => rfl
  | [_] => rfl
  | x :: y :: l => by
    have := adj_map f p (y :: l)
    simp only [List.map_cons, adj] at *
    rw [this]
theorem goodWrites_eq (l : List TWrite) : goodWrites l = l3Writes l := by
  unfold goodWrites l3Writes areRising wKeys
  rw [adj_map, List.all_map, List.not_any_eq_all_not]
  have h2 : l.all wGood = ((l.all (goodKey ∘ TWrite.Key)) && l.all fun w => l3Val w.Val && (!w.Gone || w.Val == [])) := by
    induction l with
    | nil => rfl
    | cons w l ih =>
      simp only [List.all_cons, ih, wGood, l3Write, Function.comp, goodKey_eq, Bool.and_assoc]
      cases l3Key w.Key <;> cases l3Val w.Val <;> cases (!w.Gone || w.Val == []) <;> simp only [Bool.true_and, Bool.and_true, Bool.false_and, Bool.and_false]
  have h1 : (l.all fun w => !!isStored w.Val w.Gone) = l.all fun w => l3Val w.Val && (!w.Gone || w.Val == []) := by
    congr 1; funext w; rw [Bool.not_not, isStored_eq]
  rw [h1, h2]
  show _ = _
  have h3 : adj (fun a b => Op.bytesLess a.Key b.Key) l = adj wLess l := rfl
  rw [h3]
  cases l.all (goodKey ∘ TWrite.Key) <;> cases adj wLess l <;> cases decide ((l.length : Int) ≤ 24) <;> cases (l.all fun w => l3Val w.Val && (!w.Gone || w.Val == [])) <;> rfl
theorem isRows_eq (l : List TWrite) : isRows l = l5Rows l := by
  unfold isRows l5Rows
  rw [goodWrites_eq, List.not_any_eq_all_not, Bool.and_comm]
theorem areInRange_eq (m : TMove) (l : List TWrite) : areInRange m l = l22Rows m.Low m.High l := by
  unfold areInRange l22Rows
  rw [isRows_eq, List.not_any_eq_all_not, Bool.and_comm]
  congr 2; funext w; rw [Bool.not_not]
theorem goodMove_eq (m : TMove) : goodMove m = goodMoveS m := by
  unfold goodMove goodMoveS within
  rw [areInRange_eq, areInRange_eq, areEnds_eq, goodKey_eq]
  cases h1 : l22Ends m.Low m.High <;> cases h2 : l22Rows m.Low m.High m.From <;> cases h3 : l22Rows m.Low m.High m.To <;> simp
  by_cases h4 : m.Phase = 2
  · simp [h4]
    cases h5 : l3Key m.Last <;> cases h6 : m.Last <;> simp
  · by_cases h5 : m.Phase = 1
    · simp [h5]
      cases h5 : l3Key m.Last <;> cases h6 : m.Last <;> simp
    · have e1 : (m.Phase == 1) = false := beq_false_of_ne h5
      by_cases h6 : m.Phase < 1
      · simp [h6, e1]; intro h; exact absurd h h4
      · have h7 : 2 < m.Phase := by omega
        simp [h7, e1]; intro h; exact absurd h h4
end Go.M

set_option linter.unusedVariables false
set_option linter.unusedSimpArgs false
namespace Go.M
theorem bytesLess_trans : ∀ {a b c : Str}, Op.bytesLess a b = true → Op.bytesLess b c = true → Op.bytesLess a c = true
  | [], b, c, h1, h2 => by
    cases c with
    | nil => cases b <;> simp [Op.bytesLess] at h2
    | cons z c => rfl
  | x :: a, [], _, h1, _ => by simp [Op.bytesLess] at h1
  | x :: a, y :: b, [], _, h2 => by simp [Op.bytesLess] at h2
  | x :: a, y :: b, z :: c, h1, h2 => by
    simp only [Op.bytesLess, Bool.or_eq_true, Bool.and_eq_true, decide_eq_true_eq, beq_iff_eq] at h1 h2 ⊢
    rcases h1 with h1 | ⟨h1, h1'⟩
    · rcases h2 with h2 | ⟨h2, _⟩
      · exact .inl (UInt8.lt_trans h1 h2)
      · subst h2; exact .inl h1
    · subst h1
      rcases h2 with h2 | ⟨h2, h2'⟩
      · exact .inl h2
      · exact .inr ⟨h2, bytesLess_trans h1' h2'⟩
theorem cmpStr_neg (a b : Str) : cmpStr a b < 0 ↔ Op.bytesLess a b = true := by
  unfold cmpStr
  cases h1 : Op.bytesLess a b
  · cases h2 : Op.bytesLess b a <;> simp
  · simp
theorem cmpStr_zero (a b : Str) : cmpStr a b = 0 ↔ a = b := by
  unfold cmpStr
  have h3 := bytesLess_tri a b
  cases h1 : Op.bytesLess a b
  · cases h2 : Op.bytesLess b a
    · rw [h1, h2] at h3; simp at h3; simp [h3]
    · simp; intro h; subst h; rw [h1] at h2; cases h2
  · simp; intro h; subst h; rw [bytesLess_irrefl] at h1; cases h1
/-- Where each element is below the next, it is below all that follow. -/
theorem adj_all {α : Type} {p : α → α → Bool} (tr : ∀ a b c, p a b = true → p b c = true → p a c = true) : ∀ {l : List α} {x : α}, adj p (x :: l) = true → ∀ y ∈ l, p x y = true
  | [], _, _, y, hy => by simp at hy
  | z :: l, x, h, y, hy => by
    simp only [adj, Bool.and_eq_true] at h
    rcases List.mem_cons.1 hy with rfl | hy
    · exact h.1
    · exact tr _ _ _ h.1 (adj_all tr h.2 y hy)
theorem adj_tail {α : Type} {p : α → α → Bool} {l : List α} {x : α} (h : adj p (x :: l) = true) : adj p l = true := by
  cases l with
  | nil => rfl
  | cons y l => simp only [adj, Bool.and_eq_true] at h; exact h.2
theorem adj_get {α : Type} {p : α → α → Bool} (tr : ∀ a b c, p a b = true → p b c = true → p a c = true) : ∀ {l : List α}, adj p l = true → ∀ {i j : Nat} {x y : α}, i < j → l[i]? = some x → l[j]? = some y → p x y = true
  | [], _, i, j, x, y, _, hx, _ => by simp at hx
  | z :: l, h, 0, j + 1, x, y, _, hx, hy => by
    simp at hx; subst hx
    exact adj_all tr h y (List.mem_of_getElem? (by simpa using hy))
  | z :: l, h, i + 1, j + 1, x, y, hij, hx, hy => adj_get tr (adj_tail h) (by omega : i < j) (by simpa using hx) (by simpa using hy)
/-- What the search by halves finds. -/
theorem bs_spec {α : Type} (f : α → Int) (l : List α) (down : ∀ (i j : Nat) (x y : α), i < j → l[i]? = some x → l[j]? = some y → f y < 0 → f x < 0) : ∀ (d i j : Nat), j - i = d → i ≤ j → j ≤ l.length →
    (∀ k x, k < i → l[k]? = some x → f x < 0) → (∀ x, l[j]? = some x → ¬ f x < 0) → (∀ k x, k < bs f l i j → l[k]? = some x → f x < 0) ∧ (∀ x, l[bs f l i j]? = some x → ¬ f x < 0) := by
  intro d
  induction d using Nat.strongRecOn with
  | _ d ih =>
    intro i j hd hij hjl hlo hhi
    by_cases h : i < j
    · obtain ⟨x, hx⟩ := Go.AV.get_some (show (i + j) / 2 < l.length by omega)
      by_cases hf : f x < 0
      · rw [bs_lo h hx hf]
        refine ih (j - ((i + j) / 2 + 1)) (by omega) _ _ rfl (by omega) hjl (fun k y hk hy => ?_) hhi
        rcases Nat.lt_or_ge k ((i + j) / 2) with h1 | h1
        · exact down k _ y x h1 hy hx hf
        · have : k = (i + j) / 2 := by omega
          subst this
          rw [hx] at hy; injection hy with hy; subst hy; exact hf
      · rw [bs_hi h hx hf]
        exact ih ((i + j) / 2 - i) (by omega) _ _ rfl (by omega) (by omega) hlo (fun y hy => by rw [hx] at hy; injection hy with hy; subst hy; exact hf)
    · rw [bs_end h]
      have : i = j := by omega
      subst this
      exact ⟨hlo, hhi⟩
def wCmp (k : Str) (w : TWrite) : Int := cmpStr w.Key k
def wPos (l : List TWrite) (k : Str) : Nat := bs (wCmp k) l 0 l.length
def wHas (l : List TWrite) (k : Str) : Bool := bsAt (wCmp k) l (wPos l k)
theorem wLess_trans (a b c : TWrite) (h : wLess a b = true) (k : wLess b c = true) : wLess a c = true := bytesLess_trans h k
theorem wPos_spec {l : List TWrite} (h : adj wLess l = true) (k : Str) : (∀ i x, i < wPos l k → l[i]? = some x → Op.bytesLess x.Key k = true) ∧ (∀ x, l[wPos l k]? = some x → Op.bytesLess x.Key k = false) := by
  have := bs_spec (wCmp k) l (fun i j x y hij hx hy hf => by
    unfold wCmp at *
    rw [cmpStr_neg] at *
    exact bytesLess_trans (adj_get wLess_trans h hij hx hy) hf) l.length 0 l.length rfl (Nat.zero_le _) (Nat.le_refl _) (fun k x hk => by omega) (fun x hx => by rw [List.getElem?_eq_none (Nat.le_refl _)] at hx; cases hx)
  refine ⟨fun i x hi hx => (cmpStr_neg _ _).1 (this.1 i x hi hx), fun x hx => ?_⟩
  have h2 := this.2 x hx
  unfold wCmp at h2
  rw [cmpStr_neg] at h2
  simpa using h2
/-- The first write of a key. -/
def findW (l : List TWrite) (k : Str) : Option TWrite := l.find? fun w => w.Key == k
theorem findW_eq {l : List TWrite} (h : adj wLess l = true) (k : Str) : findW l k = if wHas l k = true then l[wPos l k]? else none := by
  obtain ⟨h1, h2⟩ := wPos_spec h k
  have hat : ∀ w ∈ l, w.Key = k → l[wPos l k]? = some w := fun w hw he => by
    obtain ⟨i, hi⟩ := List.getElem?_of_mem hw
    rcases Nat.lt_trichotomy i (wPos l k) with hlt | heq | hgt
    · have := h1 i w hlt hi
      rw [he, bytesLess_irrefl] at this; cases this
    · rw [← heq]; exact hi
    · obtain ⟨y, hy⟩ := Go.AV.get_some (show wPos l k < l.length by have := (List.getElem?_eq_some_iff.1 hi).1; omega)
      have h3 := h2 y hy
      have h4 := adj_get wLess_trans h hgt hy hi
      unfold wLess at h4
      rw [he, h3] at h4; cases h4
  unfold wHas bsAt findW
  cases hp : l[wPos l k]? with
  | none =>
    simp only [Bool.false_eq_true, if_false]
    rw [List.find?_eq_none]
    intro w hw
    simp only [beq_iff_eq]
    intro he
    have := hat w hw he
    rw [hp] at this; cases this
  | some y =>
    simp only [wCmp, beq_iff_eq, cmpStr_zero]
    by_cases hk : y.Key = k
    · rw [if_pos hk]
      cases hf : l.find? fun w => w.Key == k with
      | none =>
        have := List.find?_eq_none.1 hf y (List.mem_of_getElem? hp)
        simp [hk] at this
      | some w =>
        have h5 := List.find?_some hf
        have h6 := hat w (List.mem_of_find?_eq_some hf) (by simpa using h5)
        rw [hp] at h6; exact h6.symm
    · rw [if_neg hk, List.find?_eq_none]
      intro w hw
      simp only [beq_iff_eq]
      intro he
      have := hat w hw he
      rw [hp] at this; injection this with this; subst this; exact hk he
def gotOf (l : List TWrite) (k : Str) : TGot := if wHas l k = true then (match l[wPos l k]? with | some w => ⟨k, w.Val, true⟩ | none => ⟨k, [], true⟩) else ⟨k, [], false⟩
def readMove (m : TMove) (k : Str) : Str × Bool × Int × Bool :=
  if (!goodMove m || !goodKey k || !inRange m.Low m.High k) = true then ([], false, 0, false)
  else ((gotOf (if m.Phase = 2 then m.To else m.From) k).Val, (gotOf (if m.Phase = 2 then m.To else m.From) k).There, m.Phase, true)
def readRes (o : Option TWrite) (p : Int) : Str × Bool × Int × Bool := match o with
  | some w => (w.Val, true, p, true)
  | none => ([], false, p, true)
def readMoveS (m : TMove) (k : Str) : Str × Bool × Int × Bool :=
  if (!goodMoveS m || !l3Key k || !inRange m.Low m.High k) = true then ([], false, 0, false)
  else readRes (findW (if m.Phase = 2 then m.To else m.From) k) m.Phase
theorem rows_adj {m : TMove} {l : List TWrite} (h : areInRange m l = true) : adj wLess l = true := by
  unfold areInRange isRows at h
  simp only [Bool.and_eq_true] at h
  have h1 := h.1.1
  rw [goodWrites_eq] at h1
  unfold l3Writes at h1
  simp only [Bool.and_eq_true] at h1
  exact h1.1.2
theorem goodMove_rows {m : TMove} (h : goodMove m = true) : areEnds m.Low m.High = true ∧ areInRange m m.From = true ∧ areInRange m m.To = true := by
  unfold goodMove at h
  split at h
  · cases h
  · rename_i hh
    simpa [Bool.or_eq_true, not_or, and_assoc] using hh
theorem readMove_eq (m : TMove) (k : Str) : readMove m k = readMoveS m k := by
  unfold readMove readMoveS
  rw [goodMove_eq, goodKey_eq]
  split
  · rfl
  · rename_i hh
    have hg : goodMove m = true := by
      rw [goodMove_eq]
      cases h : goodMoveS m
      · rw [h] at hh; simp at hh
      · rfl
    obtain ⟨_, h1, h2⟩ := goodMove_rows hg
    have ha : adj wLess (if m.Phase = 2 then m.To else m.From) = true := by split; exact rows_adj h2; exact rows_adj h1
    generalize (if m.Phase = 2 then m.To else m.From) = l at *
    rw [findW_eq ha]
    unfold gotOf
    cases hw : wHas l k
    · simp [readRes]
    · simp only [if_true]
      unfold wHas bsAt at hw
      cases hp : l[wPos l k]? with
      | none => rw [hp] at hw; cases hw
      | some w => rfl
def noWrite : TWrite := ⟨[], [], false⟩
def wEq (a b : TWrite) : Bool := (a.Key == b.Key) && ((a.Val == b.Val) && ((a.Gone == b.Gone) && true))
theorem wEq_dec (a b : TWrite) : wEq a b = decide (a = b) := by
  unfold wEq; cases a; cases b; simp only [TWrite.mk.injEq, Bool.and_true]
  rw [Bool.eq_iff_iff]; simp
def isMoveAct (m : TMove) (a : TMoveAct) : Bool :=
  if a.Kind = 1 then (a.Many == 0) && goodWrites [a.Write] && inRange m.Low m.High a.Write.Key
  else if a.Kind = 2 then wEq a.Write noWrite && within a.Many 1 24
  else if a.Kind = 3 ∨ a.Kind = 4 then wEq a.Write noWrite && (a.Many == 0)
  else false
def l22Good (m : TMove) (a : TMoveAct) : Bool :=
  if a.Kind = 1 then l3Write a.Write.Key a.Write.Val a.Write.Gone && inRange m.Low m.High a.Write.Key && (a.Many == 0)
  else if a.Kind = 2 then wEq a.Write noWrite && within a.Many 1 24
  else if a.Kind = 3 ∨ a.Kind = 4 then wEq a.Write noWrite && (a.Many == 0)
  else false
theorem isMoveAct_eq (m : TMove) (a : TMoveAct) : isMoveAct m a = l22Good m a := by
  unfold isMoveAct l22Good
  have h : goodWrites [a.Write] = l3Write a.Write.Key a.Write.Val a.Write.Gone := by
    rw [goodWrites_eq]; unfold l3Writes wGood; simp [adj]
  rw [h]
  split
  · cases (a.Many == 0) <;> cases l3Write a.Write.Key a.Write.Val a.Write.Gone <;> cases inRange m.Low m.High a.Write.Key <;> rfl
  · rfl
end Go.M

set_option linter.unusedVariables false
set_option linter.unusedSimpArgs false
namespace Go.M
def cpDel (m : TMove) (w : TWrite) : Bool := !m.Over && !(Op.bytesLess w.Key m.Last || w.Key == m.Last)
def cpWant (m : TMove) (w : TWrite) : Bool := m.Over || (Op.bytesLess w.Key m.Last || w.Key == m.Last)
def isCopied (m : TMove) : Bool × Bool := if (!goodMove m) = true then (false, false) else ((m.Phase == 2) || decide (m.From.filter (fun w => !cpDel m w) = m.To), true)
def l22Copied (m : TMove) : Bool := if m.Phase = 2 then true else decide (m.From.filter (cpWant m) = m.To)
def isCopiedS (m : TMove) : Bool × Bool := if (!goodMoveS m) = true then (false, false) else (l22Copied m, true)
theorem cpDel_eq (m : TMove) : (fun w => !cpDel m w) = cpWant m := by
  funext w; unfold cpDel cpWant
  cases m.Over <;> cases Op.bytesLess w.Key m.Last <;> cases (w.Key == m.Last) <;> rfl
theorem isCopied_eq (m : TMove) : isCopied m = isCopiedS m := by
  unfold isCopied isCopiedS l22Copied
  rw [goodMove_eq, cpDel_eq]
  by_cases h : m.Phase = 2
  · simp [h]
  · have e : (m.Phase == 2) = false := beq_false_of_ne h
    simp [h, e]
def mkMove (low high : Str) (rows : List TWrite) : TMove := ⟨low, high, 1, rows, [], [], false⟩
def noMove : TMove := ⟨[], [], 0, [], [], [], false⟩
def newMove (low high : Str) (rows : List TWrite) : TMove × Bool := if (!goodMove (mkMove low high rows)) = true then (noMove, false) else (mkMove low high rows, true)
def newMoveS (low high : Str) (rows : List TWrite) : TMove × Bool := if (!l22Ends low high || !l22Rows low high rows) = true then (noMove, false) else (mkMove low high rows, true)
theorem newMove_eq (low high : Str) (rows : List TWrite) : newMove low high rows = newMoveS low high rows := by
  unfold newMove newMoveS
  have h : goodMove (mkMove low high rows) = (l22Ends low high && l22Rows low high rows) := by
    rw [goodMove_eq]
    unfold goodMoveS mkMove
    have h1 : l22Rows low high [] = true := rfl
    have h2 : within 1 1 2 = true := rfl
    simp only [h1, h2]
    cases l22Ends low high <;> cases l22Rows low high rows <;> rfl
  rw [h]
  cases l22Ends low high <;> cases l22Rows low high rows <;> rfl
theorem newMove_len (low high : Str) (rows : List TWrite) : (newMove low high rows).1.From.length ≤ rows.length ∧ (newMove low high rows).1.To.length = 0 := by
  unfold newMove; split
  · exact ⟨Nat.zero_le _, rfl⟩
  · exact ⟨Nat.le_refl _, rfl⟩
end Go.M

set_option linter.unusedVariables false
set_option linter.unusedSimpArgs false
namespace Go.M
/-- A write put into rising rows, in the place of one of its key. -/
def ins : List TWrite → TWrite → List TWrite
  | [], w => [w]
  | x :: l, w => if Op.bytesLess x.Key w.Key = true then x :: ins l w else if x.Key = w.Key then w :: l else w :: x :: l
theorem ins_at {w : TWrite} : ∀ {l : List TWrite} {p : Nat}, p ≤ l.length → (∀ i x, i < p → l[i]? = some x → Op.bytesLess x.Key w.Key = true) → (∀ x, l[p]? = some x → Op.bytesLess x.Key w.Key = false) →
    ins l w = if (∃ x, l[p]? = some x ∧ x.Key = w.Key) then l.set p w else l.take p ++ w :: l.drop p
  | [], p, hp, _, _ => by simp at hp; subst hp; simp [ins]
  | x :: l, 0, _, _, h2 => by
    have h := h2 x rfl
    unfold ins
    rw [h]
    by_cases hk : x.Key = w.Key
    · rw [if_neg (by decide), if_pos hk, if_pos ⟨x, rfl, hk⟩]; rfl
    · rw [if_neg (by decide), if_neg hk, if_neg (fun ⟨y, hy, hyk⟩ => by simp at hy; subst hy; exact hk hyk)]; rfl
  | x :: l, p + 1, hp, h1, h2 => by
    have h := h1 0 x (by omega) rfl
    unfold ins
    rw [if_pos h, ins_at (l := l) (p := p) (by simpa using hp) (fun i y hi hy => h1 (i + 1) y (by omega) (by simpa using hy)) (fun y hy => h2 y (by simpa using hy))]
    simp only [List.getElem?_cons_succ, List.set_cons_succ, List.take_succ_cons, List.drop_succ_cons]
    split <;> simp
def putW (l : List TWrite) (w : TWrite) : List TWrite := if wHas l w.Key = true then l.set (wPos l w.Key) w else l.take (wPos l w.Key) ++ w :: l.drop (wPos l w.Key)
theorem bs_le {α : Type} (f : α → Int) (l : List α) : ∀ (d i j : Nat), j - i = d → i ≤ j → j ≤ l.length → bs f l i j ≤ j := by
  intro d
  induction d using Nat.strongRecOn with
  | _ d ih =>
    intro i j hd hij hjl
    by_cases h : i < j
    · obtain ⟨x, hx⟩ := Go.AV.get_some (show (i + j) / 2 < l.length by omega)
      by_cases hf : f x < 0
      · rw [bs_lo h hx hf]
        exact ih (j - ((i + j) / 2 + 1)) (by omega) _ _ rfl (by omega) hjl
      · rw [bs_hi h hx hf]
        exact Nat.le_trans (ih ((i + j) / 2 - i) (by omega) _ _ rfl (by omega) (by omega)) (by omega)
    · rw [bs_end h]; exact hij
theorem wPos_le (l : List TWrite) (k : Str) : wPos l k ≤ l.length := bs_le _ _ _ _ _ rfl (Nat.zero_le _) (Nat.le_refl _)
theorem wHas_iff {l : List TWrite} {k : Str} : wHas l k = true ↔ ∃ x, l[wPos l k]? = some x ∧ x.Key = k := by
  unfold wHas bsAt
  cases h : l[wPos l k]? with
  | none => simp
  | some x => simp [wCmp, cmpStr_zero]
theorem putW_ins {l : List TWrite} (h : adj wLess l = true) (w : TWrite) : putW l w = ins l w := by
  obtain ⟨h1, h2⟩ := wPos_spec h w.Key
  rw [ins_at (wPos_le l w.Key) h1 h2]
  unfold putW
  by_cases hw : wHas l w.Key = true
  · rw [if_pos hw, if_pos (wHas_iff.1 hw)]
  · rw [if_neg hw, if_neg (fun h => hw (wHas_iff.2 h))]
/-- Where the reference's search from behind stops. -/
def scanW (l : List TWrite) (k : Str) : Nat → Nat
  | 0 => 0
  | n + 1 => match l[n]? with
    | some x => if Op.bytesLess k x.Key = true then scanW l k n else n + 1
    | none => n + 1
def hitW (l : List TWrite) (k : Str) : Nat → Bool
  | 0 => false
  | n + 1 => match l[n]? with
    | some x => x.Key == k
    | none => false
def putWS (l : List TWrite) (w : TWrite) : List TWrite :=
  if hitW l w.Key (scanW l w.Key l.length) = true then l.set (scanW l w.Key l.length - 1) w else l.take (scanW l w.Key l.length) ++ w :: l.drop (scanW l w.Key l.length)
theorem scanW_le (l : List TWrite) (k : Str) : ∀ n, scanW l k n ≤ n
  | 0 => Nat.le_refl _
  | n + 1 => by
    unfold scanW
    split
    · split
      · exact Nat.le_succ_of_le (scanW_le l k n)
      · exact Nat.le_refl _
    · exact Nat.le_refl _
theorem scanW_spec (l : List TWrite) (k : Str) : ∀ n, n ≤ l.length → (∀ i x, scanW l k n ≤ i → i < n → l[i]? = some x → Op.bytesLess k x.Key = true) ∧ (∀ x, 0 < scanW l k n → l[scanW l k n - 1]? = some x → Op.bytesLess k x.Key = false)
  | 0, _ => ⟨fun i x h1 h2 => by omega, fun x h => by simp [scanW] at h⟩
  | n + 1, hn => by
    obtain ⟨x, hx⟩ := Go.AV.get_some (show n < l.length by omega)
    have ih := scanW_spec l k n (by omega)
    unfold scanW
    simp only [hx]
    by_cases hb : Op.bytesLess k x.Key = true
    · rw [if_pos hb]
      refine ⟨fun i y h1 h2 hy => ?_, ih.2⟩
      rcases Nat.lt_or_ge i n with h3 | h3
      · exact ih.1 i y h1 h3 hy
      · have : i = n := by omega
        subst this
        rw [hx] at hy; injection hy with hy; subst hy; exact hb
    · rw [if_neg hb]
      refine ⟨fun i y h1 h2 hy => by omega, fun y _ hy => ?_⟩
      rw [Nat.add_sub_cancel, hx] at hy; injection hy with hy; subst hy
      simpa using hb
theorem putWS_ins {l : List TWrite} (h : adj wLess l = true) (w : TWrite) : putWS l w = ins l w := by
  obtain ⟨h1, h2⟩ := scanW_spec l w.Key l.length (Nat.le_refl _)
  have hle := scanW_le l w.Key l.length
  unfold putWS
  generalize scanW l w.Key l.length = k at *
  cases k with
  | zero =>
    rw [if_neg (by simp [hitW]), ins_at (l := l) (p := 0) (Nat.zero_le _) (fun i x h => by omega) (fun x hx => by
      have h3 := h1 0 x (Nat.le_refl _) (List.getElem?_eq_some_iff.1 hx).1 hx
      cases hb : Op.bytesLess x.Key w.Key with
      | false => rfl
      | true => have := bytesLess_trans h3 hb; rw [bytesLess_irrefl] at this; cases this)]
    rw [if_neg]
    intro ⟨x, hx, hk⟩
    have h3 := h1 0 x (Nat.le_refl _) (List.getElem?_eq_some_iff.1 hx).1 hx
    rw [hk, bytesLess_irrefl] at h3; cases h3
  | succ n =>
    obtain ⟨x, hx⟩ := Go.AV.get_some (show n < l.length by omega)
    have h3 := h2 x (by omega) (by simpa using hx)
    have htri := bytesLess_tri x.Key w.Key
    by_cases hk : x.Key = w.Key
    · rw [if_pos (by simp [hitW, hx, hk]), Nat.add_sub_cancel]
      rw [ins_at (l := l) (p := n) (by omega) (fun i y hi hy => by have := adj_get wLess_trans h hi hy hx; unfold wLess at this; rw [hk] at this; exact this) (fun y hy => by rw [hx] at hy; injection hy with hy; subst hy; rw [hk, bytesLess_irrefl])]
      rw [if_pos ⟨x, hx, hk⟩]
    · have hlt : Op.bytesLess x.Key w.Key = true := by rw [h3] at htri; cases hb : Op.bytesLess x.Key w.Key with | true => rfl | false => (rw [hb] at htri; simp at htri; exact absurd htri.symm hk)
      rw [if_neg (by simp [hitW, hx, hk])]
      have hno : ∀ y, l[n + 1]? = some y → Op.bytesLess w.Key y.Key = true := fun y hy => h1 (n + 1) y (Nat.le_refl _) (List.getElem?_eq_some_iff.1 hy).1 hy
      rw [ins_at (l := l) (p := n + 1) hle (fun i y hi hy => by
        rcases Nat.lt_or_ge i n with h4 | h4
        · have := adj_get wLess_trans h h4 hy hx
          exact bytesLess_trans this hlt
        · have : i = n := by omega
          subst this
          rw [hx] at hy; injection hy with hy; subst hy; exact hlt) (fun y hy => by
        cases hb : Op.bytesLess y.Key w.Key with
        | false => rfl
        | true => have := bytesLess_trans (hno y hy) hb; rw [bytesLess_irrefl] at this; cases this)]
      rw [if_neg]
      intro ⟨y, hy, hyk⟩
      have := hno y hy
      rw [hyk, bytesLess_irrefl] at this; cases this
theorem putW_eq {l : List TWrite} (h : adj wLess l = true) (w : TWrite) : putW l w = putWS l w := (putW_ins h w).trans (putWS_ins h w).symm
/-! ### What putting in keeps -/
theorem adj_pair {α : Type} {p : α → α → Bool} (tr : ∀ a b c, p a b = true → p b c = true → p a c = true) : ∀ {l : List α}, adj p l = true ↔ l.Pairwise fun a b => p a b = true
  | [] => by simp [adj]
  | [x] => by simp [adj]
  | x :: y :: l => by
    rw [adj, Bool.and_eq_true, adj_pair tr, List.pairwise_cons (a := x)]
    constructor
    · intro ⟨h1, h2⟩
      refine ⟨fun z hz => ?_, h2⟩
      rcases List.mem_cons.1 hz with rfl | hz
      · exact h1
      · exact tr _ _ _ h1 (List.rel_of_pairwise_cons h2 hz)
    · intro ⟨h1, h2⟩
      exact ⟨h1 y List.mem_cons_self, h2⟩
theorem adj_filter {l : List TWrite} (q : TWrite → Bool) (h : adj wLess l = true) : adj wLess (l.filter q) = true :=
  (adj_pair wLess_trans).2 (((adj_pair wLess_trans).1 h).filter q)
theorem adj_take {l : List TWrite} (n : Nat) (h : adj wLess l = true) : adj wLess (l.take n) = true :=
  (adj_pair wLess_trans).2 (((adj_pair wLess_trans).1 h).sublist (List.take_sublist n l))
theorem ins_mem {w x : TWrite} : ∀ {l : List TWrite}, x ∈ ins l w → x = w ∨ x ∈ l
  | [], h => by simp [ins] at h; exact .inl h
  | y :: l, h => by
    unfold ins at h
    split at h
    · rcases List.mem_cons.1 h with rfl | h
      · exact .inr List.mem_cons_self
      · exact (ins_mem h).imp id (List.mem_cons_of_mem _)
    · split at h
      · rcases List.mem_cons.1 h with rfl | h
        · exact .inl rfl
        · exact .inr (List.mem_cons_of_mem _ h)
      · rcases List.mem_cons.1 h with rfl | h
        · exact .inl rfl
        · exact .inr h
theorem ins_adj {w : TWrite} : ∀ {l : List TWrite}, adj wLess l = true → adj wLess (ins l w) = true
  | [], _ => rfl
  | y :: l, h => by
    have hp := (adj_pair wLess_trans).1 h
    refine (adj_pair wLess_trans).2 ?_
    unfold ins
    split
    · rename_i hlt
      have ih := (adj_pair wLess_trans).1 (ins_adj (w := w) (adj_tail h))
      refine List.pairwise_cons.2 ⟨fun z hz => ?_, ih⟩
      rcases ins_mem hz with rfl | hz
      · exact hlt
      · exact List.rel_of_pairwise_cons hp hz
    · rename_i hnlt
      split
      · rename_i hk
        refine List.pairwise_cons.2 ⟨fun z hz => ?_, (List.pairwise_cons.1 hp).2⟩
        have := List.rel_of_pairwise_cons hp hz
        unfold wLess at this ⊢
        rw [← hk]; exact this
      · rename_i hk
        have hgt : Op.bytesLess w.Key y.Key = true := by
          have := bytesLess_tri y.Key w.Key
          cases hb : Op.bytesLess w.Key y.Key with
          | true => rfl
          | false => rw [hb] at this; simp at hnlt; rw [hnlt] at this; simp at this; exact absurd this.symm hk
        refine List.pairwise_cons.2 ⟨fun z hz => ?_, hp⟩
        rcases List.mem_cons.1 hz with rfl | hz
        · exact hgt
        · exact bytesLess_trans hgt (List.rel_of_pairwise_cons hp hz)
theorem ins_len {w : TWrite} : ∀ {l : List TWrite}, l.length ≤ (ins l w).length ∧ (ins l w).length ≤ l.length + 1
  | [] => by simp [ins]
  | y :: l => by
    unfold ins
    have ih := ins_len (w := w) (l := l)
    split
    · simp; omega
    · split <;> simp
theorem gt_less (a b : Str) : (!(Op.bytesLess a b || a == b)) = Op.bytesLess b a := by
  have h := bytesLess_tri a b
  cases h1 : Op.bytesLess a b
  · cases h2 : Op.bytesLess b a
    · rw [h1, h2] at h; simp at h; simp [h]
    · simp; intro hc; subst hc; rw [bytesLess_irrefl] at h2; cases h2
  · simp; cases h2 : Op.bytesLess b a with
    | false => rfl
    | true => have := bytesLess_trans h1 h2; rw [bytesLess_irrefl] at this; cases this
theorem scanW_step {l : List TWrite} {k : Str} {n : Nat} {x : TWrite} (hx : l[n]? = some x) (h : Op.bytesLess k x.Key = true) : scanW l k (n + 1) = scanW l k n := by
  conv => lhs; unfold scanW
  simp only [hx, h, if_true]
theorem scanW_stop {l : List TWrite} {k : Str} {n : Nat} {x : TWrite} (hx : l[n]? = some x) (h : Op.bytesLess k x.Key = false) : scanW l k (n + 1) = n + 1 := by
  unfold scanW
  simp only [hx, h, Bool.false_eq_true, if_false]
def insL (l ws : List TWrite) : List TWrite := ws.foldl ins l
theorem insL_adj : ∀ {ws l : List TWrite}, adj wLess l = true → adj wLess (insL l ws) = true
  | [], _, h => h
  | w :: ws, l, h => insL_adj (ws := ws) (ins_adj h)
theorem insL_mem {x : TWrite} : ∀ {ws l : List TWrite}, x ∈ insL l ws → x ∈ ws ∨ x ∈ l
  | [], _, h => .inr h
  | w :: ws, l, h => by
    rcases insL_mem (ws := ws) (l := ins l w) h with h | h
    · exact .inl (List.mem_cons_of_mem _ h)
    · rcases ins_mem h with rfl | h
      · exact .inl List.mem_cons_self
      · exact .inr h
theorem insL_len : ∀ {ws l : List TWrite}, (insL l ws).length ≤ l.length + ws.length
  | [], l => by simp [insL]
  | w :: ws, l => by
    have h1 := insL_len (ws := ws) (l := ins l w)
    have h2 := (ins_len (w := w) (l := l)).2
    show (insL (ins l w) ws).length ≤ _
    simp only [List.length_cons]; omega
def putL (l ws : List TWrite) : List TWrite := ws.foldl putW l
def putLS (l ws : List TWrite) : List TWrite := ws.foldl putWS l
theorem putL_ins : ∀ {ws l : List TWrite}, adj wLess l = true → putL l ws = insL l ws
  | [], _, _ => rfl
  | w :: ws, l, h => by
    show putL (putW l w) ws = insL (ins l w) ws
    rw [putW_ins h, putL_ins (ins_adj h)]
theorem putLS_ins : ∀ {ws l : List TWrite}, adj wLess l = true → putLS l ws = insL l ws
  | [], _, _ => rfl
  | w :: ws, l, h => by
    show putLS (putWS l w) ws = insL (ins l w) ws
    rw [putWS_ins h, putLS_ins (ins_adj h)]
theorem putWS_len (l : List TWrite) (w : TWrite) : (putWS l w).length ≤ l.length + 1 := by
  unfold putWS; split
  · simp
  · simp; omega
theorem putW_len (l : List TWrite) (w : TWrite) : (putW l w).length ≤ l.length + 1 := by
  unfold putW; split
  · simp
  · simp; omega
theorem putLS_len : ∀ (ws l : List TWrite), (putLS l ws).length ≤ l.length + ws.length
  | [], l => by simp [putLS]
  | w :: ws, l => by
    have h1 := putLS_len ws (putWS l w)
    have h2 := putWS_len l w
    show (putLS (putWS l w) ws).length ≤ _
    simp only [List.length_cons]; omega
theorem putL_len : ∀ (ws l : List TWrite), (putL l ws).length ≤ l.length + ws.length
  | [], l => by simp [putL]
  | w :: ws, l => by
    have h1 := putL_len ws (putW l w)
    have h2 := putW_len l w
    show (putL (putW l w) ws).length ≤ _
    simp only [List.length_cons]; omega
theorem putL_snoc (l ws : List TWrite) (w : TWrite) : putL l (ws ++ [w]) = putW (putL l ws) w := by unfold putL; rw [List.foldl_append]; rfl
theorem putLS_snoc (l ws : List TWrite) (w : TWrite) : putLS l (ws ++ [w]) = putWS (putLS l ws) w := by unfold putLS; rw [List.foldl_append]; rfl
def livesL (l : List TWrite) : List TWrite := l.filter fun w => !w.Gone
/-- The program's putRows. -/
def putRows (rows ws : List TWrite) : List TWrite × Bool := if (24 : Int) < ((livesL (putL rows ws)).length : Int) then ([], false) else (livesL (putL rows ws), true)
/-- The reference's PutRows. -/
def putRowsS (rows ws : List TWrite) : List TWrite × Bool := if (!l5Rows rows || !l3Writes ws || !l5Rows (livesL (putLS rows ws))) = true then ([], false) else (livesL (putLS rows ws), true)
theorem l5_adj {l : List TWrite} (h : l5Rows l = true) : adj wLess l = true := by
  unfold l5Rows l3Writes at h; simp only [Bool.and_eq_true] at h; exact h.2.1.2
theorem l5_all {l : List TWrite} (h : l5Rows l = true) : ∀ w ∈ l, w.Gone = false ∧ wGood w = true := by
  unfold l5Rows l3Writes at h; simp only [Bool.and_eq_true, List.all_eq_true] at h
  exact fun w hw => ⟨by simpa using h.1 w hw, h.2.1.1 w hw⟩
theorem l5_len {l : List TWrite} (h : l5Rows l = true) : l.length ≤ 24 := by
  unfold l5Rows l3Writes at h; simp only [Bool.and_eq_true, decide_eq_true_eq] at h; omega
theorem l5_mk {l : List TWrite} (h1 : adj wLess l = true) (h2 : ∀ w ∈ l, w.Gone = false ∧ wGood w = true) : l5Rows l = decide ((l.length : Int) ≤ 24) := by
  unfold l5Rows l3Writes
  have h3 : (l.all fun w => !w.Gone) = true := List.all_eq_true.2 fun w hw => by simp [(h2 w hw).1]
  have h4 : l.all wGood = true := List.all_eq_true.2 fun w hw => (h2 w hw).2
  rw [h1, h3, h4]; simp
theorem live_all {rows ws : List TWrite} (hr : l5Rows rows = true) (hw : ∀ w ∈ ws, wGood w = true) : ∀ w ∈ livesL (insL rows ws), w.Gone = false ∧ wGood w = true := fun w h => by
  obtain ⟨h1, h2⟩ := List.mem_filter.1 h
  refine ⟨by simpa using h2, ?_⟩
  rcases insL_mem h1 with h3 | h3
  · exact hw w h3
  · exact (l5_all hr w h3).2
theorem putRows_eq {rows ws : List TWrite} (hr : l5Rows rows = true) (hw : l3Writes ws = true) : putRows rows ws = putRowsS rows ws := by
  have ha := l5_adj hr
  have hg : ∀ w ∈ ws, wGood w = true := by unfold l3Writes at hw; simp only [Bool.and_eq_true, List.all_eq_true] at hw; exact hw.1.1
  unfold putRows putRowsS
  rw [putL_ins ha, putLS_ins ha, hr, hw, l5_mk (l := livesL (insL rows ws)) (adj_filter _ (insL_adj ha)) (live_all hr hg)]
  by_cases h : (24 : Int) < ((livesL (insL rows ws)).length : Int)
  · rw [if_pos h, if_pos (by simp; omega)]
  · rw [if_neg h, if_neg (by simp; omega)]
theorem sizeW_app {α : Type} (f : α → Nat) (a b : List α) : sizeL f (a ++ b) = sizeL f a + sizeL f b := by
  unfold sizeL; simp only [List.length_append, List.map_append, List.sum_append]; omega
theorem sizeW_cons {α : Type} (f : α → Nat) (x : α) (b : List α) : sizeL f (x :: b) = f x + 1 + sizeL f b := by
  unfold sizeL; simp only [List.length_cons, List.map_cons, List.sum_cons]; omega
theorem sizeW_ins {α : Type} (f : α → Nat) (l : List α) (n : Nat) (x : α) : sizeL f (l.take n ++ x :: l.drop n) = sizeL f l + f x + 1 := by
  have h := congrArg (sizeL f) (List.take_append_drop n l)
  rw [sizeW_app] at h
  rw [sizeW_app, sizeW_cons]; omega
theorem sizeW_set {α : Type} (f : α → Nat) (x : α) : ∀ (l : List α) (n : Nat), sizeL f (l.set n x) ≤ sizeL f l + f x
  | [], n => by simp
  | y :: l, 0 => by rw [List.set_cons_zero, sizeW_cons, sizeW_cons]; omega
  | y :: l, n + 1 => by rw [List.set_cons_succ, sizeW_cons, sizeW_cons]; have := sizeW_set f x l n; omega
theorem sizeW_sub {α : Type} {f : α → Nat} {l m : List α} (h : List.Sublist m l) : sizeL f m ≤ sizeL f l := by
  induction h with
  | slnil => exact Nat.le_refl _
  | cons x h ih => rw [sizeW_cons]; omega
  | cons_cons x h ih => rw [sizeW_cons, sizeW_cons]; omega
theorem putWS_size (l : List TWrite) (w : TWrite) : sizeL TWrite.size (putWS l w) ≤ sizeL TWrite.size l + w.size + 1 := by
  unfold putWS; split
  · have := sizeW_set TWrite.size w l (scanW l w.Key l.length - 1); omega
  · rw [sizeW_ins]; omega
theorem putLS_size : ∀ (ws l : List TWrite), sizeL TWrite.size (putLS l ws) ≤ sizeL TWrite.size l + sizeL TWrite.size ws
  | [], l => by simp [putLS]
  | w :: ws, l => by
    have h1 := putLS_size ws (putWS l w)
    have h2 := putWS_size l w
    show sizeL TWrite.size (putLS (putWS l w) ws) ≤ _
    rw [sizeW_cons]; omega
theorem livesL_size (l : List TWrite) : sizeL TWrite.size (livesL l) ≤ sizeL TWrite.size l := sizeW_sub (List.filter_sublist)
theorem livesL_id {l : List TWrite} (h : ∀ w ∈ l, w.Gone = false) : livesL l = l := by
  unfold livesL; rw [List.filter_eq_self]; intro w hw; simp [h w hw]
end Go.M

set_option linter.unusedVariables false
set_option linter.unusedSimpArgs false
namespace Go.M
def sleM (a b : Str) : Bool := Op.bytesLess a b || a == b
def putR1 (m : TMove) (w : TWrite) : List TWrite × Bool := if m.Phase = 1 then putRows m.From [w] else (m.From, true)
def putR2 (m : TMove) (w : TWrite) : List TWrite × Bool := if (m.Phase == 2 || m.Over || sleM w.Key m.Last) = true then putRows m.To [w] else (m.To, true)
def putM (m : TMove) (w : TWrite) : TMove × Bool := if ((putR1 m w).2 && (putR2 m w).2) = true then (⟨m.Low, m.High, m.Phase, (putR1 m w).1, (putR2 m w).1, m.Last, m.Over⟩, true) else (m, false)
def restM (m : TMove) : List TWrite := m.From.filter fun w => !sleM w.Key m.Last
def minI (a b : Int) : Int := if b < a then b else a
def pieceOf (m : TMove) (many : Int) : List TWrite := (restM m).take (minI many (restM m).length).toNat
def lastKey (l : List TWrite) (d : Str) : Str := match l.getLast? with
  | some w => w.Key
  | none => d
theorem lastKey_some {l : List TWrite} {d : Str} {y : TWrite} (h : l[l.length - 1]? = some y) : lastKey l d = y.Key := by
  unfold lastKey; rw [List.getLast?_eq_getElem?, h]
theorem lastKey_take {l : List TWrite} {d : Str} {y : TWrite} {i : Nat} (h : l[i]? = some y) : lastKey (l.take (i + 1)) d = y.Key := by
  unfold lastKey; rw [List.take_add_one, h]; simp
theorem lastKey_none {l : List TWrite} {d : Str} (h : l.length = 0) : lastKey l d = d := by
  rw [List.eq_nil_of_length_eq_zero h]; rfl
def pieceM (m : TMove) (many : Int) : TMove × Bool :=
  if (putRows m.To (pieceOf m many)).2 = false then (m, false)
  else (⟨m.Low, m.High, m.Phase, m.From, (putRows m.To (pieceOf m many)).1, lastKey (pieceOf m many) m.Last, m.Over || (((pieceOf m many).length : Int) == ((restM m).length : Int))⟩, true)
def stepM (m : TMove) (a : TMoveAct) : TMove × Bool :=
  if a.Kind = 1 then putM m a.Write
  else if m.Phase ≠ 1 then (m, false)
  else if a.Kind = 2 then pieceM m a.Many
  else if ((a.Kind == 3) && m.Over) = true then (⟨m.Low, m.High, 2, [], m.To, [], false⟩, true)
  else if a.Kind = 4 then (⟨m.Low, m.High, m.Phase, m.From, [], [], false⟩, true)
  else (m, false)
def stepMove (m : TMove) (a : TMoveAct) : TMove × Bool × Bool := if (goodMove m && isMoveAct m a) = true then ((stepM m a).1, (stepM m a).2, true) else (noMove, false, false)
/-! ### The reference -/
def putBoth (m : TMove) (w : TWrite) : Bool := m.Phase == 2 || m.Over || sleM w.Key m.Last
def putBad (m : TMove) (w : TWrite) : Bool := ((m.Phase == 1) && !(putRowsS m.From [w]).2) || (putBoth m w && !(putRowsS m.To [w]).2)
def putMS (m : TMove) (w : TWrite) : TMove × Bool :=
  if putBad m w = true then (m, false)
  else (⟨m.Low, m.High, m.Phase, if m.Phase = 1 then (putRowsS m.From [w]).1 else m.From, if putBoth m w = true then (putRowsS m.To [w]).1 else m.To, m.Last, m.Over⟩, true)
def leastI (a b : Int) : Int := if a < b then a else b
def gtLast (m : TMove) (w : TWrite) : Bool := !(Op.bytesLess w.Key m.Last || w.Key == m.Last)
def leftM (m : TMove) : List TWrite := m.From.filter (gtLast m)
def pieceS (m : TMove) (many : Int) : List TWrite := (leftM m).take (leastI many (leftM m).length).toNat
def pieceMS (m : TMove) (many : Int) : TMove :=
  ⟨m.Low, m.High, m.Phase, m.From, putLS m.To (pieceS m many), lastKey (pieceS m many) m.Last, m.Over || (leastI many (leftM m).length == ((leftM m).length : Int))⟩
def doS (m : TMove) (a : TMoveAct) : TMove × Bool :=
  if a.Kind = 1 then putMS m a.Write
  else if ((m.Phase != 1) || ((a.Kind == 3) && !m.Over)) = true then (m, false)
  else if a.Kind = 2 then (pieceMS m a.Many, goodMoveS (pieceMS m a.Many))
  else if a.Kind = 3 then (⟨m.Low, m.High, 2, [], m.To, [], false⟩, true)
  else (⟨m.Low, m.High, 1, m.From, [], [], false⟩, true)
def stepMS (m : TMove) (a : TMoveAct) : TMove × Bool := if (doS m a).2 = true then ((doS m a).1, true) else (m, false)
def stepMoveS (m : TMove) (a : TMoveAct) : TMove × Bool × Bool := if (goodMoveS m && l22Good m a) = true then ((stepMS m a).1, (stepMS m a).2, true) else (noMove, false, false)
end Go.M

set_option linter.unusedVariables false
set_option linter.unusedSimpArgs false
namespace Go.M
theorem lastKey_len (l : List TWrite) (d : Str) : (lastKey l d).length ≤ sizeL TWrite.size l + d.length := by
  unfold lastKey
  split
  · rename_i w hw
    have h := sizeL_mem (f := TWrite.size) (List.mem_of_getLast? hw)
    have h2 : w.Key.length ≤ w.size := Nat.le_add_right _ _
    omega
  · omega
theorem pieceS_size (m : TMove) (many : Int) : sizeL TWrite.size (pieceS m many) ≤ sizeL TWrite.size m.From :=
  sizeW_sub ((List.take_sublist _ _).trans List.filter_sublist)
theorem pieceMS_size (m : TMove) (many : Int) : (pieceMS m many).size ≤ 3 * m.size := by
  have h1 := pieceS_size m many
  have h2 := lastKey_len (pieceS m many) m.Last
  have h3 := putLS_size (pieceS m many) m.To
  unfold TMove.size pieceMS
  simp only
  omega
/-! ### A good migration is small -/
theorem within_iff {n a b : Int} : within n a b = true ↔ a ≤ n ∧ n ≤ b := by unfold within; simp
theorem goodKey_len {k : Str} (h : goodKey k = true) : k.length ≤ 12 := by
  unfold goodKey at h; simp only [Bool.and_eq_true, within_iff] at h; omega
theorem l3Key_len {k : Str} (h : l3Key k = true) : k.length ≤ 12 := by
  unfold l3Key at h; simp only [Bool.and_eq_true, within_iff] at h; omega
theorem wGood_size {w : TWrite} (h : wGood w = true) : w.size ≤ 36 := by
  unfold wGood l3Write at h
  simp only [Bool.and_eq_true] at h
  have h1 := l3Key_len h.1.1
  have h2 := h.1.2
  unfold l3Val at h2
  simp only [Bool.and_eq_true, decide_eq_true_eq] at h2
  unfold TWrite.size; omega
theorem sizeL_le {α : Type} {f : α → Nat} {c : Nat} : ∀ {l : List α}, (∀ x ∈ l, f x ≤ c) → sizeL f l ≤ l.length * (c + 1)
  | [], _ => by simp [sizeL]
  | x :: l, h => by
    rw [sizeW_cons]
    have h1 := h x List.mem_cons_self
    have h2 := sizeL_le (l := l) (f := f) (c := c) fun y hy => h y (List.mem_cons_of_mem _ hy)
    simp only [List.length_cons, Nat.add_mul, Nat.one_mul]; omega
theorem rows_size {l : List TWrite} (h : l5Rows l = true) : sizeL TWrite.size l ≤ 888 := by
  have h1 := sizeL_le (f := TWrite.size) (c := 36) fun w hw => wGood_size (l5_all h w hw).2
  have h2 := l5_len h
  omega
theorem goodMove_l5 {m : TMove} (h : goodMove m = true) : l5Rows m.From = true ∧ l5Rows m.To = true := by
  obtain ⟨_, h1, h2⟩ := goodMove_rows h
  unfold areInRange at h1 h2
  simp only [Bool.and_eq_true] at h1 h2
  rw [isRows_eq] at h1 h2
  exact ⟨h1.1, h2.1⟩
theorem goodMove_parts {m : TMove} (h : goodMove m = true) : m.Low.length ≤ 12 ∧ m.High.length ≤ 12 ∧ m.Last.length ≤ 12 := by
  have h0 := goodMove_rows h
  have h1 := h0.1
  unfold areEnds at h1
  simp only [Bool.and_eq_true, Bool.or_eq_true, beq_iff_eq] at h1
  refine ⟨?_, ?_, ?_⟩
  · rcases h1.1 with h2 | h2
    · rw [h2]; decide
    · exact goodKey_len h2
  · rcases h1.2 with h2 | h2
    · rw [h2]; decide
    · exact goodKey_len h2.1
  · rw [goodMove_eq] at h
    unfold goodMoveS at h
    split at h
    · cases h
    · rename_i hh
      simp only [Bool.or_eq_true, not_or, Bool.and_eq_true, not_and, bne_iff_ne, ne_eq] at hh
      by_cases hl : m.Last = []
      · rw [hl]; decide
      · have := hh.2 hl
        exact l3Key_len (by simpa using this)
theorem goodMove_size {m : TMove} (h : goodMove m = true) : m.size ≤ 2048 := by
  obtain ⟨h1, h2⟩ := goodMove_l5 h
  obtain ⟨h3, h4, h5⟩ := goodMove_parts h
  have h6 := rows_size h1
  have h7 := rows_size h2
  unfold TMove.size; omega
theorem isMoveAct_w {m : TMove} {a : TMoveAct} (h : isMoveAct m a = true) : a.Write.size ≤ 36 := by
  rw [isMoveAct_eq] at h
  unfold l22Good at h
  split at h
  · simp only [Bool.and_eq_true] at h
    exact wGood_size h.1.1
  · split at h
    · simp only [Bool.and_eq_true, wEq_dec, decide_eq_true_eq] at h
      rw [h.1]; decide
    · split at h
      · simp only [Bool.and_eq_true, wEq_dec, decide_eq_true_eq] at h
        rw [h.1]; decide
      · cases h
theorem act_kind {m : TMove} {a : TMoveAct} (h : isMoveAct m a = true) : a.Kind = 1 ∨ a.Kind = 2 ∨ a.Kind = 3 ∨ a.Kind = 4 := by
  unfold isMoveAct at h
  split at h
  · omega
  · split at h
    · omega
    · split at h
      · omega
      · cases h
theorem act_put {m : TMove} {a : TMoveAct} (h : isMoveAct m a = true) (k : a.Kind = 1) : l3Writes [a.Write] = true ∧ inRange m.Low m.High a.Write.Key = true ∧ a.Many = 0 := by
  unfold isMoveAct at h
  rw [if_pos k] at h
  simp only [Bool.and_eq_true, beq_iff_eq] at h
  rw [goodWrites_eq] at h
  exact ⟨h.1.2, h.2, h.1.1⟩
theorem act_many0 {m : TMove} {a : TMoveAct} (h : isMoveAct m a = true) (k : a.Kind = 2) : 0 ≤ a.Many := by
  unfold isMoveAct at h
  rw [if_neg (by omega), if_pos k] at h
  simp only [Bool.and_eq_true, within_iff] at h
  omega
theorem putM_eq {m : TMove} {w : TWrite} (hg : goodMove m = true) (hw : l3Writes [w] = true) : putM m w = if (putMS m w).2 = true then ((putMS m w).1, true) else (m, false) := by
  obtain ⟨h1, h2⟩ := goodMove_l5 hg
  have e1 := putRows_eq h1 hw
  have e2 := putRows_eq h2 hw
  have r1 : putR1 m w = if m.Phase = 1 then putRowsS m.From [w] else (m.From, true) := by unfold putR1; rw [e1]
  have r2 : putR2 m w = if putBoth m w = true then putRowsS m.To [w] else (m.To, true) := by unfold putR2 putBoth; rw [e2]
  unfold putM putMS putBad
  rw [r1, r2]
  generalize putRowsS m.From [w] = A
  generalize putRowsS m.To [w] = B
  obtain ⟨A1, A2⟩ := A
  obtain ⟨B1, B2⟩ := B
  generalize putBoth m w = t
  by_cases hp : m.Phase = 1
  · have hb : (m.Phase == 1) = true := by simp [hp]
    simp only [hp, if_true]
    cases A2 <;> cases B2 <;> cases t <;> simp
  · have hb : (m.Phase == 1) = false := beq_false_of_ne hp
    simp only [hp, if_false, hb]
    cases B2 <;> cases t <;> simp
theorem minI_eq (a b : Int) : minI a b = leastI a b := by unfold minI leastI; split <;> split <;> omega
theorem pieceOf_eq (m : TMove) (many : Int) : pieceOf m many = pieceS m many := by
  unfold pieceOf pieceS; rw [minI_eq]; rfl
theorem pieceS_len (m : TMove) {many : Int} (h : 0 ≤ many) : ((pieceS m many).length : Int) = leastI many (leftM m).length := by
  unfold pieceS; rw [List.length_take]
  unfold leastI; split <;> omega
theorem lastKey_or (l : List TWrite) (d : Str) : lastKey l d = d ∨ ∃ w ∈ l, lastKey l d = w.Key := by
  unfold lastKey
  split
  · rename_i w hw; exact .inr ⟨w, List.mem_of_getLast? hw, rfl⟩
  · exact .inl rfl
theorem piece_mem {m : TMove} {many : Int} {w : TWrite} (h : w ∈ pieceS m many) : w ∈ m.From := (List.mem_filter.1 (List.mem_of_mem_take h)).1
theorem inRow {m : TMove} {l : List TWrite} (h : areInRange m l = true) : l5Rows l = true ∧ ∀ w ∈ l, inRange m.Low m.High w.Key = true := by
  rw [areInRange_eq] at h
  unfold l22Rows at h
  simp only [Bool.and_eq_true, List.all_eq_true] at h
  exact ⟨h.2, h.1⟩
theorem pieceMS_good {m : TMove} (hg : goodMove m = true) (hp : m.Phase = 1) (many : Int) : goodMoveS (pieceMS m many) = decide (((insL m.To (pieceS m many)).length : Int) ≤ 24) := by
  obtain ⟨h0, h1, h2⟩ := goodMove_rows hg
  obtain ⟨h3, h4⟩ := inRow h1
  obtain ⟨h5, h6⟩ := inRow h2
  have hl := (goodMove_parts hg).2.2
  have hadj := insL_adj (ws := pieceS m many) (l5_adj h5)
  have hall : ∀ w ∈ insL m.To (pieceS m many), w.Gone = false ∧ wGood w = true := fun w hw => by
    rcases insL_mem hw with h | h
    · exact l5_all h3 w (piece_mem h)
    · exact l5_all h5 w h
  have hin : (insL m.To (pieceS m many)).all (fun w => inRange m.Low m.High w.Key) = true := List.all_eq_true.2 fun w hw => by
    rcases insL_mem hw with h | h
    · exact h4 w (piece_mem h)
    · exact h6 w h
  have hrow : l22Rows m.Low m.High (insL m.To (pieceS m many)) = decide (((insL m.To (pieceS m many)).length : Int) ≤ 24) := by
    unfold l22Rows; rw [hin, l5_mk hadj hall, Bool.true_and]
  have hlast : (lastKey (pieceS m many) m.Last != [] && !l3Key (lastKey (pieceS m many) m.Last)) = false := by
    rcases lastKey_or (pieceS m many) m.Last with h | ⟨w, hw, h⟩
    · rw [h]
      rw [goodMove_eq] at hg
      unfold goodMoveS at hg
      split at hg
      · cases hg
      · rename_i hh
        simp only [Bool.or_eq_true, not_or] at hh
        simpa using hh.2
    · rw [h]
      have := (l5_all h3 w (piece_mem hw)).2
      unfold wGood l3Write at this
      simp only [Bool.and_eq_true] at this
      rw [this.1.1]; simp
  unfold goodMoveS pieceMS
  simp only
  rw [putLS_ins (l5_adj h5), hrow, hlast, ← areInRange_eq, h1, ← areEnds_eq, h0, hp]
  by_cases hn : ((insL m.To (pieceS m many)).length : Int) ≤ 24
  · simp [hn, within]
  · simp [hn, within]
theorem stepMS_of {m n : TMove} {a : TMoveAct} {b : Bool} (h : doS m a = (n, b)) : stepMS m a = if b = true then (n, true) else (m, false) := by unfold stepMS; rw [h]
theorem stepM_eq {m : TMove} {a : TMoveAct} (hg : goodMove m = true) (ha : isMoveAct m a = true) : stepM m a = stepMS m a := by
  by_cases h1 : a.Kind = 1
  · have hd : doS m a = putMS m a.Write := by unfold doS; rw [if_pos h1]
    unfold stepM stepMS
    rw [if_pos h1, hd, putM_eq hg (act_put ha h1).1]
  · by_cases hp : m.Phase = 1
    · have hb : (m.Phase != 1) = false := by simp [hp]
      by_cases h2 : a.Kind = 2
      · have h3 : (a.Kind == 3) = false := beq_false_of_ne (by omega)
        have hd : doS m a = (pieceMS m a.Many, goodMoveS (pieceMS m a.Many)) := by unfold doS; rw [if_neg h1, hb, h3, if_neg (by simp), if_pos h2]
        have hs : stepM m a = pieceM m a.Many := by unfold stepM; rw [if_neg h1, if_neg (by omega), if_pos h2]
        rw [stepMS_of hd, hs]
        obtain ⟨h5, h6⟩ := goodMove_l5 hg
        have hadj := l5_adj h6
        have hlive : livesL (insL m.To (pieceS m a.Many)) = insL m.To (pieceS m a.Many) := livesL_id fun w hw => by
          rcases insL_mem hw with h | h
          · exact (l5_all h5 w (piece_mem h)).1
          · exact (l5_all h6 w h).1
        unfold pieceM
        rw [pieceOf_eq, pieceMS_good hg hp, pieceS_len m (act_many0 ha h2)]
        unfold putRows
        rw [putL_ins hadj, hlive]
        by_cases hn : ((insL m.To (pieceS m a.Many)).length : Int) ≤ 24
        · have hn2 : ¬ (24 : Int) < ((insL m.To (pieceS m a.Many)).length : Int) := by omega
          have hn3 : decide (((insL m.To (pieceS m a.Many)).length : Int) ≤ 24) = true := decide_eq_true hn
          rw [if_neg hn2, hn3, if_pos rfl, if_neg (by simp)]
          unfold pieceMS
          rw [putLS_ins hadj]
          rfl
        · have hn2 : (24 : Int) < ((insL m.To (pieceS m a.Many)).length : Int) := by omega
          have hn3 : decide (((insL m.To (pieceS m a.Many)).length : Int) ≤ 24) = false := decide_eq_false hn
          rw [if_pos hn2, hn3, if_pos rfl, if_neg (by decide)]
      · by_cases h3 : a.Kind = 3
        · have hb3 : (a.Kind == 3) = true := by simp [h3]
          cases ho : m.Over
          · have hd : doS m a = (m, false) := by unfold doS; rw [if_neg h1, hb3, ho, if_pos (by simp)]
            have hs : stepM m a = (m, false) := by unfold stepM; rw [if_neg h1, if_neg (by omega), if_neg h2, hb3, ho, if_neg (by simp), if_neg (by omega)]
            rw [stepMS_of hd, hs]; rfl
          · have hd : doS m a = (⟨m.Low, m.High, 2, [], m.To, [], false⟩, true) := by unfold doS; rw [if_neg h1, hb, ho, if_neg (by simp), if_neg h2, if_pos h3]
            have hs : stepM m a = (⟨m.Low, m.High, 2, [], m.To, [], false⟩, true) := by unfold stepM; rw [if_neg h1, if_neg (by omega), if_neg h2, hb3, ho, if_pos (by simp)]
            rw [stepMS_of hd, hs]; rfl
        · have hb3 : (a.Kind == 3) = false := beq_false_of_ne h3
          have h4 : a.Kind = 4 := by have := act_kind ha; omega
          have hd : doS m a = (⟨m.Low, m.High, 1, m.From, [], [], false⟩, true) := by unfold doS; rw [if_neg h1, hb, hb3, if_neg (by simp), if_neg h2, if_neg h3]
          have hs : stepM m a = (⟨m.Low, m.High, 1, m.From, [], [], false⟩, true) := by unfold stepM; rw [if_neg h1, if_neg (by omega), if_neg h2, hb3, if_neg (by simp), if_pos h4, hp]
          rw [stepMS_of hd, hs]; rfl
    · have hb : (m.Phase != 1) = true := by simpa using hp
      have hd : doS m a = (m, false) := by unfold doS; rw [if_neg h1, hb, if_pos (by simp)]
      have hs : stepM m a = (m, false) := by unfold stepM; rw [if_neg h1, if_pos hp]
      rw [stepMS_of hd, hs]; rfl
theorem move_lens {m : TMove} (h : m.size ≤ 1048576) : m.From.length ≤ 1048576 ∧ m.To.length ≤ 1048576 := by
  have h1 := sizeL_len (f := TWrite.size) (l := m.From)
  have h2 := sizeL_len (f := TWrite.size) (l := m.To)
  unfold TMove.size at h; omega
theorem putMS_len (m : TMove) (w : TWrite) : (putMS m w).1.From.length ≤ m.From.length + 1 ∧ (putMS m w).1.To.length ≤ m.To.length + 1 := by
  have hp : ∀ l : List TWrite, (putRowsS l [w]).1.length ≤ l.length + 1 := fun l => by
    unfold putRowsS
    split
    · simp
    · have := putLS_len [w] l
      have h2 := List.length_filter_le (fun w : TWrite => !w.Gone) (putLS l [w])
      simp only [List.length_cons, List.length_nil] at this
      unfold livesL; simp only; omega
  unfold putMS
  split
  · simp
  · simp only
    constructor
    · split
      · exact hp _
      · omega
    · split
      · exact hp _
      · omega
theorem stepMS_len {m : TMove} {a : TMoveAct} : (stepMS m a).1.From.length ≤ m.From.length + 1 ∧ (stepMS m a).1.To.length ≤ m.To.length + m.From.length + 1 := by
  unfold stepMS
  split
  · simp only
    unfold doS
    split
    · have := putMS_len m a.Write; omega
    · split
      · simp only; omega
      · split
        · have h1 := putLS_len (pieceS m a.Many) m.To
          have h2 : (pieceS m a.Many).length ≤ m.From.length := ((List.take_sublist _ _).trans List.filter_sublist).length_le
          unfold pieceMS; simp only; omega
        · split <;> simp <;> omega
  · simp only; omega
theorem stepMove_len (m : TMove) (a : TMoveAct) : (stepMove m a).1.From.length ≤ m.From.length + 1 ∧ (stepMove m a).1.To.length ≤ m.To.length + m.From.length + 1 := by
  unfold stepMove
  split
  · rename_i h
    simp only [Bool.and_eq_true] at h
    rw [stepM_eq h.1 h.2]
    exact stepMS_len
  · exact ⟨Nat.zero_le _, Nat.zero_le _⟩
theorem stepMove_eq (m : TMove) (a : TMoveAct) : stepMove m a = stepMoveS m a := by
  unfold stepMove stepMoveS
  rw [← goodMove_eq, ← isMoveAct_eq]
  split
  · rename_i h
    simp only [Bool.and_eq_true] at h
    rw [stepM_eq h.1 h.2]
  · rfl
end Go.M

set_option linter.unusedVariables false
set_option linter.unusedSimpArgs false
namespace Go.M
def oneI (m : TMove) (a : TMoveAct) : TMove × Bool := if isMoveAct m a = true then stepM m a else (m, false)
def oneS (m : TMove) (a : TMoveAct) : TMove × Bool := if l22Good m a = true then stepMS m a else (m, false)
def runI (m : TMove) (l : List TMoveAct) : TMove × List Bool := l.foldl (fun r a => ((oneI r.1 a).1, r.2 ++ [(oneI r.1 a).2])) (m, [])
def runS (m : TMove) (l : List TMoveAct) : TMove × List Bool := l.foldl (fun r a => ((oneS r.1 a).1, r.2 ++ [(oneS r.1 a).2])) (m, [])
theorem runI_snoc (m : TMove) (l : List TMoveAct) (a : TMoveAct) : runI m (l ++ [a]) = ((oneI (runI m l).1 a).1, (runI m l).2 ++ [(oneI (runI m l).1 a).2]) := by unfold runI; rw [List.foldl_append]; rfl
theorem runS_snoc (m : TMove) (l : List TMoveAct) (a : TMoveAct) : runS m (l ++ [a]) = ((oneS (runS m l).1 a).1, (runS m l).2 ++ [(oneS (runS m l).1 a).2]) := by unfold runS; rw [List.foldl_append]; rfl
theorem runI_next {m : TMove} {l : List TMoveAct} {i : Nat} {a : TMoveAct} (h : l[i]? = some a) : runI m (l.take (i + 1)) = ((oneI (runI m (l.take i)).1 a).1, (runI m (l.take i)).2 ++ [(oneI (runI m (l.take i)).1 a).2]) := by
  rw [List.take_add_one, h]; exact runI_snoc _ _ _
theorem runS_next {m : TMove} {l : List TMoveAct} {i : Nat} {a : TMoveAct} (h : l[i]? = some a) : runS m (l.take (i + 1)) = ((oneS (runS m (l.take i)).1 a).1, (runS m (l.take i)).2 ++ [(oneS (runS m (l.take i)).1 a).2]) := by
  rw [List.take_add_one, h]; exact runS_snoc _ _ _
def playMove (m : TMove) (l : List TMoveAct) : TMove × List Bool × Bool := if (!goodMove m || decide ((30 : Int) < (l.length : Int))) = true then (noMove, [], false) else ((runI m l).1, (runI m l).2, true)
def playMoveS (m : TMove) (l : List TMoveAct) : TMove × List Bool × Bool := if (!goodMoveS m || decide ((30 : Int) < (l.length : Int))) = true then (noMove, [], false) else ((runS m l).1, (runS m l).2, true)
/-! ### A step keeps a migration good -/
theorem goodMove_mk {m : TMove} (h0 : areEnds m.Low m.High = true) (h1 : areInRange m m.From = true) (h2 : areInRange m m.To = true) (h3 : (m.Phase = 2 ∧ m.From = [] ∧ m.Last = [] ∧ m.Over = false) ∨ (m.Phase = 1 ∧ (m.Last = [] ∨ goodKey m.Last = true))) : goodMove m = true := by
  unfold goodMove
  rw [h0, h1, h2]
  rcases h3 with ⟨p, q, r, s⟩ | ⟨p, q⟩
  · rw [if_neg (by decide), if_pos p, q, r, s]; rfl
  · rw [if_neg (by decide), if_neg (by omega), p]
    rcases q with q | q
    · simp [q]
    · simp [q]
theorem goodMove_phase {m : TMove} (h : goodMove m = true) : (m.Phase = 2 ∧ m.From = [] ∧ m.Last = [] ∧ m.Over = false) ∨ (m.Phase = 1 ∧ (m.Last = [] ∨ goodKey m.Last = true)) := by
  unfold goodMove at h
  split at h
  · cases h
  · split at h
    · rename_i hp
      refine .inl ⟨hp, ?_⟩
      simpa [and_assoc] using h
    · refine .inr ?_
      simpa using h
theorem inRow_mk {m : TMove} {l : List TWrite} (h1 : l5Rows l = true) (h2 : ∀ w ∈ l, inRange m.Low m.High w.Key = true) : areInRange m l = true := by
  rw [areInRange_eq]; unfold l22Rows; rw [h1, Bool.and_true, List.all_eq_true]; exact h2
theorem inRange_same {m n : TMove} {l : List TWrite} (h : areInRange m l = true) (h1 : n.Low = m.Low) (h2 : n.High = m.High) : areInRange n l = true := by
  obtain ⟨h3, h4⟩ := inRow h
  exact inRow_mk h3 (by rw [h1, h2]; exact h4)
theorem putRowsS_in {m : TMove} {l : List TWrite} {w : TWrite} (h : areInRange m l = true) (hw : l3Writes [w] = true) (hi : inRange m.Low m.High w.Key = true) (ho : (putRowsS l [w]).2 = true) : areInRange m (putRowsS l [w]).1 = true := by
  obtain ⟨h1, h2⟩ := inRow h
  unfold putRowsS at ho ⊢
  split at ho
  · cases ho
  · rename_i hh
    rw [if_neg hh]
    simp only [Bool.or_eq_true, Bool.not_eq_true', not_or, Bool.not_eq_false] at hh
    refine inRow_mk hh.2 fun x hx => ?_
    rw [putLS_ins (l5_adj h1)] at hx
    rcases insL_mem (List.mem_filter.1 hx).1 with h3 | h3
    · rw [List.mem_singleton.1 h3]; exact hi
    · exact h2 x h3
theorem stepMS_good {m : TMove} {a : TMoveAct} (hg : goodMove m = true) (ha : isMoveAct m a = true) : goodMove (stepMS m a).1 = true := by
  obtain ⟨g0, g1, g2⟩ := goodMove_rows hg
  have gp := goodMove_phase hg
  unfold stepMS
  split
  · rename_i hd
    simp only
    by_cases k1 : a.Kind = 1
    · obtain ⟨w1, w2, _⟩ := act_put ha k1
      have he : doS m a = putMS m a.Write := by unfold doS; rw [if_pos k1]
      rw [he] at hd ⊢
      unfold putMS at hd ⊢
      split at hd
      · cases hd
      · rename_i hb
        rw [if_neg hb]
        have hb2 : ((m.Phase == 1) && !(putRowsS m.From [a.Write]).2) = false ∧ (putBoth m a.Write && !(putRowsS m.To [a.Write]).2) = false := by
          simpa [putBad] using hb
        have f1 : areInRange m (if m.Phase = 1 then (putRowsS m.From [a.Write]).1 else m.From) = true := by
          by_cases hp : m.Phase = 1
          · rw [if_pos hp]
            have ho : (putRowsS m.From [a.Write]).2 = true := by
              have h9 := hb2.1
              rw [hp] at h9
              simpa using h9
            exact putRowsS_in g1 w1 w2 ho
          · rw [if_neg hp]; exact g1
        have f2 : areInRange m (if putBoth m a.Write = true then (putRowsS m.To [a.Write]).1 else m.To) = true := by
          by_cases hp : putBoth m a.Write = true
          · rw [if_pos hp]
            have ho : (putRowsS m.To [a.Write]).2 = true := by
              have h9 := hb2.2
              rw [hp, Bool.true_and] at h9
              simpa using h9
            exact putRowsS_in g2 w1 w2 ho
          · rw [if_neg hp]; exact g2
        refine goodMove_mk g0 (inRange_same f1 rfl rfl) (inRange_same f2 rfl rfl) ?_
        · rcases gp with ⟨p1, p2, p3, p4⟩ | ⟨p1, p2⟩
          · exact .inl ⟨p1, by show (if m.Phase = 1 then _ else m.From) = []; rw [if_neg (by omega)]; exact p2, p3, p4⟩
          · exact .inr ⟨p1, p2⟩
    · by_cases hp : ((m.Phase != 1) || ((a.Kind == 3) && !m.Over)) = true
      · have he : doS m a = (m, false) := by unfold doS; rw [if_neg k1, if_pos hp]
        rw [he] at hd; cases hd
      · have hph : m.Phase = 1 := by
          by_cases h : m.Phase = 1
          · exact h
          · exact absurd (by simp [h]) hp
        by_cases k2 : a.Kind = 2
        · have he : doS m a = (pieceMS m a.Many, goodMoveS (pieceMS m a.Many)) := by unfold doS; rw [if_neg k1, if_neg hp, if_pos k2]
          rw [he] at hd ⊢
          rw [goodMove_eq]; exact hd
        · by_cases k3 : a.Kind = 3
          · have he : doS m a = (⟨m.Low, m.High, 2, [], m.To, [], false⟩, true) := by unfold doS; rw [if_neg k1, if_neg hp, if_neg k2, if_pos k3]
            rw [he]
            exact goodMove_mk g0 rfl (inRange_same g2 rfl rfl) (.inl ⟨rfl, rfl, rfl, rfl⟩)
          · have he : doS m a = (⟨m.Low, m.High, 1, m.From, [], [], false⟩, true) := by unfold doS; rw [if_neg k1, if_neg hp, if_neg k2, if_neg k3]
            rw [he]
            exact goodMove_mk g0 (inRange_same g1 rfl rfl) rfl (.inr ⟨rfl, .inl rfl⟩)
  · exact hg
theorem oneI_eq {m : TMove} (hg : goodMove m = true) (a : TMoveAct) : oneI m a = oneS m a := by
  unfold oneI oneS
  rw [← isMoveAct_eq]
  split
  · rename_i h; exact stepM_eq hg h
  · rfl
theorem oneS_good {m : TMove} (hg : goodMove m = true) (a : TMoveAct) : goodMove (oneS m a).1 = true := by
  unfold oneS
  rw [← isMoveAct_eq]
  split
  · rename_i h; exact stepMS_good hg h
  · exact hg
def stI (r : TMove × List Bool) (a : TMoveAct) : TMove × List Bool := ((oneI r.1 a).1, r.2 ++ [(oneI r.1 a).2])
def stS (r : TMove × List Bool) (a : TMoveAct) : TMove × List Bool := ((oneS r.1 a).1, r.2 ++ [(oneS r.1 a).2])
theorem foldS_good : ∀ (l : List TMoveAct) (r : TMove × List Bool), goodMove r.1 = true → goodMove (l.foldl stS r).1 = true
  | [], _, h => h
  | a :: l, r, h => foldS_good l (stS r a) (oneS_good h a)
theorem foldI_eq : ∀ (l : List TMoveAct) (r : TMove × List Bool), goodMove r.1 = true → l.foldl stI r = l.foldl stS r
  | [], _, _ => rfl
  | a :: l, r, h => by
    have e : stI r a = stS r a := by unfold stI stS; rw [oneI_eq h]
    simp only [List.foldl_cons]
    rw [e]
    exact foldI_eq l (stS r a) (oneS_good h a)
theorem foldI_len : ∀ (l : List TMoveAct) (r : TMove × List Bool), (l.foldl stI r).2.length = r.2.length + l.length
  | [], _ => rfl
  | a :: l, r => by
    simp only [List.foldl_cons, List.length_cons]
    rw [foldI_len l (stI r a)]
    unfold stI; simp only [List.length_append, List.length_cons, List.length_nil]; omega
theorem foldS_len : ∀ (l : List TMoveAct) (r : TMove × List Bool), (l.foldl stS r).2.length = r.2.length + l.length
  | [], _ => rfl
  | a :: l, r => by
    simp only [List.foldl_cons, List.length_cons]
    rw [foldS_len l (stS r a)]
    unfold stS; simp only [List.length_append, List.length_cons, List.length_nil]; omega
theorem runS_good {m : TMove} (hg : goodMove m = true) (l : List TMoveAct) : goodMove (runS m l).1 = true := foldS_good l (m, []) hg
theorem runI_eq {m : TMove} (hg : goodMove m = true) (l : List TMoveAct) : runI m l = runS m l := foldI_eq l (m, []) hg
theorem runI_good {m : TMove} (hg : goodMove m = true) (l : List TMoveAct) : goodMove (runI m l).1 = true := by rw [runI_eq hg]; exact runS_good hg l
theorem runI_len (m : TMove) (l : List TMoveAct) : (runI m l).2.length = l.length := (foldI_len l (m, [])).trans (Nat.zero_add _)
theorem runS_len (m : TMove) (l : List TMoveAct) : (runS m l).2.length = l.length := (foldS_len l (m, [])).trans (Nat.zero_add _)
theorem playMove_eq (m : TMove) (l : List TMoveAct) : playMove m l = playMoveS m l := by
  unfold playMove playMoveS
  rw [← goodMove_eq]
  split
  · rfl
  · rename_i h
    have hg : goodMove m = true := by cases hg : goodMove m with | true => rfl | false => (rw [hg] at h; simp at h)
    rw [runI_eq hg]
end Go.M

set_option linter.unusedVariables false
set_option linter.unusedSimpArgs false
namespace Go.M
theorem ins_front {w : TWrite} : ∀ {l : List TWrite}, (∀ y ∈ l, Op.bytesLess w.Key y.Key = true) → ins l w = w :: l
  | [], _ => rfl
  | y :: l, h => by
    have h1 := h y List.mem_cons_self
    unfold ins
    rw [if_neg (by intro hc; have := bytesLess_trans h1 hc; rw [bytesLess_irrefl] at this; cases this), if_neg (by intro hc; rw [hc, bytesLess_irrefl] at h1; cases h1)]
theorem key_cases (a b : Str) : Op.bytesLess a b = true ∨ a = b ∨ Op.bytesLess b a = true := by
  have h := bytesLess_tri a b
  cases h1 : Op.bytesLess a b
  · cases h2 : Op.bytesLess b a
    · rw [h1, h2] at h; simp at h; exact .inr (.inl h.symm)
    · exact .inr (.inr rfl)
  · exact .inl rfl
/-- A set of keys that goes from the least one up. -/
def Down (q : Str → Bool) : Prop := ∀ a b, Op.bytesLess a b = true → q b = true → q a = true
theorem ins_filter {q : Str → Bool} (hq : Down q) {w : TWrite} : ∀ {l : List TWrite}, adj wLess l = true → (ins l w).filter (fun x => q x.Key) = if q w.Key = true then ins (l.filter fun x => q x.Key) w else l.filter fun x => q x.Key
  | [], _ => by
    unfold ins
    by_cases h : q w.Key = true
    · rw [if_pos h]; simp [h, ins]
    · rw [if_neg h]; simp [h]
  | x :: l, ha => by
    have ih := ins_filter hq (w := w) (adj_tail ha)
    have hp := (adj_pair wLess_trans).1 ha
    conv => lhs; unfold ins
    rcases key_cases x.Key w.Key with h | h | h
    · rw [if_pos h]
      by_cases hw : q w.Key = true
      · have hx := hq _ _ h hw
        rw [List.filter_cons_of_pos (by simpa using hx), List.filter_cons_of_pos (by simpa using hx), ih, if_pos hw, if_pos hw]
        conv => rhs; unfold ins
        rw [if_pos h]
      · rw [if_neg hw] at ih ⊢
        by_cases hx : q x.Key = true
        · rw [List.filter_cons_of_pos (by simpa using hx), List.filter_cons_of_pos (by simpa using hx), ih]
        · rw [List.filter_cons_of_neg (by simpa using hx), List.filter_cons_of_neg (by simpa using hx), ih]
    · rw [if_neg (by rw [h, bytesLess_irrefl]; decide), if_pos h]
      by_cases hw : q w.Key = true
      · have hx : q x.Key = true := by rw [h]; exact hw
        rw [List.filter_cons_of_pos (by simpa using hw), List.filter_cons_of_pos (by simpa using hx), if_pos hw]
        unfold ins
        rw [if_neg (by rw [h, bytesLess_irrefl]; decide), if_pos h]
      · have hx : ¬ q x.Key = true := by rw [h]; exact hw
        rw [List.filter_cons_of_neg (by simpa using hw), List.filter_cons_of_neg (by simpa using hx), if_neg hw]
    · rw [if_neg (by intro hc; have := bytesLess_trans hc h; rw [bytesLess_irrefl] at this; cases this), if_neg (by intro hc; rw [hc, bytesLess_irrefl] at h; cases h)]
      by_cases hw : q w.Key = true
      · rw [List.filter_cons_of_pos (by simpa using hw), if_pos hw]
        refine (ins_front fun y hy => ?_).symm
        have hy2 := (List.mem_filter.1 hy).1
        rcases List.mem_cons.1 hy2 with rfl | hy2
        · exact h
        · exact bytesLess_trans h (List.rel_of_pairwise_cons hp hy2)
      · rw [List.filter_cons_of_neg (by simpa using hw), if_neg hw]
theorem ins_self {w : TWrite} : ∀ {l : List TWrite}, adj wLess l = true → w ∈ l → ins l w = l
  | [], _, h => by simp at h
  | x :: l, ha, h => by
    have hp := (adj_pair wLess_trans).1 ha
    unfold ins
    rcases List.mem_cons.1 h with rfl | h
    · rw [if_neg (by rw [bytesLess_irrefl]; decide), if_pos rfl]
    · have hlt : Op.bytesLess x.Key w.Key = true := List.rel_of_pairwise_cons hp h
      rw [if_pos hlt, ins_self (adj_tail ha) h]
theorem insL_self : ∀ {ws l : List TWrite}, adj wLess l = true → (∀ w ∈ ws, w ∈ l) → insL l ws = l
  | [], _, _, _ => rfl
  | w :: ws, l, ha, h => by
    show insL (ins l w) ws = l
    rw [ins_self ha (h w List.mem_cons_self)]
    exact insL_self ha fun v hv => h v (List.mem_cons_of_mem _ hv)
theorem ins_back {w : TWrite} : ∀ {l : List TWrite}, (∀ y ∈ l, Op.bytesLess y.Key w.Key = true) → ins l w = l ++ [w]
  | [], _ => rfl
  | y :: l, h => by
    unfold ins
    rw [if_pos (h y List.mem_cons_self), ins_back fun z hz => h z (List.mem_cons_of_mem _ hz)]; rfl
theorem insL_back : ∀ {ws l : List TWrite}, adj wLess ws = true → (∀ w ∈ ws, ∀ y ∈ l, Op.bytesLess y.Key w.Key = true) → insL l ws = l ++ ws
  | [], l, _, _ => by simp [insL]
  | w :: ws, l, ha, h => by
    have hp := (adj_pair wLess_trans).1 ha
    show insL (ins l w) ws = _
    rw [ins_back (h w List.mem_cons_self), insL_back (adj_tail ha) fun v hv y hy => ?_, List.append_assoc]
    · rfl
    · rcases List.mem_append.1 hy with hy | hy
      · exact h v (List.mem_cons_of_mem _ hv) y hy
      · rw [List.mem_singleton.1 hy]; exact List.rel_of_pairwise_cons hp hv
theorem filter_split {q : Str → Bool} (hq : Down q) : ∀ {l : List TWrite}, adj wLess l = true → (l.filter fun x => q x.Key) ++ (l.filter fun x => !q x.Key) = l
  | [], _ => rfl
  | x :: l, ha => by
    have hp := (adj_pair wLess_trans).1 ha
    by_cases hx : q x.Key = true
    · rw [List.filter_cons_of_pos (by simpa using hx), List.filter_cons_of_neg (by simp [hx]), List.cons_append, filter_split hq (adj_tail ha)]
    · have h0 : (l.filter fun x => q x.Key) = [] := by
        rw [List.filter_eq_nil_iff]
        intro y hy hc
        exact hx (hq _ _ (List.rel_of_pairwise_cons hp hy) hc)
      have h1 : (l.filter fun x => !q x.Key) = l := by
        rw [List.filter_eq_self]
        intro y hy
        have := List.filter_eq_nil_iff.1 h0 y hy
        simpa using this
      rw [List.filter_cons_of_neg (by simpa using hx), List.filter_cons_of_pos (by simpa using hx), h0, h1]; rfl
theorem sleM_down (last : Str) (o : Bool) : Down fun k => o || sleM k last := fun a b h1 h2 => by
  simp only [Bool.or_eq_true] at h2 ⊢
  refine h2.imp id fun h3 => ?_
  unfold sleM at h3 ⊢
  simp only [Bool.or_eq_true, beq_iff_eq] at h3 ⊢
  refine .inl ?_
  rcases h3 with h3 | h3
  · exact bytesLess_trans h1 h3
  · rw [← h3]; exact h1
def copiedM (m : TMove) : Prop := m.Phase = 2 ∨ m.From.filter (fun w => m.Over || sleM w.Key m.Last) = m.To
theorem l22Copied_iff (m : TMove) : l22Copied m = true ↔ copiedM m := by
  unfold l22Copied copiedM
  split
  · rename_i h; simp [h]
  · rename_i h; simp only [decide_eq_true_eq, h, false_or]; rfl
theorem livesL_filter (l : List TWrite) (q : Str → Bool) : (livesL l).filter (fun x => q x.Key) = livesL (l.filter fun x => q x.Key) := by
  unfold livesL; rw [List.filter_filter, List.filter_filter]; congr 1; funext x; exact Bool.and_comm _ _
theorem copied_put {m : TMove} {w : TWrite} (hg : goodMove m = true) (hw : l3Writes [w] = true) (hc : copiedM m) : copiedM (if (putMS m w).2 = true then (putMS m w).1 else m) := by
  split
  · rename_i hd
    rcases hc with hp | hc
    · left
      unfold putMS at hd ⊢
      split
      · exact hp
      · exact hp
    · by_cases hp : m.Phase = 2
      · left
        unfold putMS
        split <;> exact hp
      · have hp1 : m.Phase = 1 := by rcases goodMove_phase hg with h | h; exact absurd h.1 hp; exact h.1
        obtain ⟨g1, g2⟩ := goodMove_l5 hg
        unfold putMS at hd ⊢
        split at hd
        · cases hd
        · rename_i hb
          rw [if_neg hb]
          have hb2 : (putRowsS m.From [w]).2 = true ∧ (putBoth m w = true → (putRowsS m.To [w]).2 = true) := by
            unfold putBad at hb
            rw [hp1] at hb
            simpa using hb
          have hF : (putRowsS m.From [w]).1 = livesL (ins m.From w) := by
            have h9 := hb2.1
            unfold putRowsS at h9 ⊢
            split at h9
            · cases h9
            · rename_i hh; rw [if_neg hh, putLS_ins (l5_adj g1)]; rfl
          right
          simp only
          rw [if_pos hp1, hF, livesL_filter _ (fun k => m.Over || sleM k m.Last), ins_filter (sleM_down m.Last m.Over) (l5_adj g1), hc]
          have hpb : putBoth m w = (m.Over || sleM w.Key m.Last) := by
            unfold putBoth
            rw [show (m.Phase == 2) = false from by simp [hp1], Bool.false_or]
          by_cases hbo : (m.Over || sleM w.Key m.Last) = true
          · rw [if_pos hbo, if_pos (by rw [hpb]; exact hbo)]
            have h9 := hb2.2 (by rw [hpb]; exact hbo)
            unfold putRowsS at h9 ⊢
            split at h9
            · cases h9
            · rename_i hh; rw [if_neg hh, putLS_ins (l5_adj g2)]; rfl
          · rw [if_neg hbo, if_neg (by rw [hpb]; exact hbo)]
            exact livesL_id fun v hv => (l5_all g2 v hv).1
  · exact hc
theorem leftM_eq (m : TMove) : leftM m = m.From.filter fun w => !sleM w.Key m.Last := rfl
theorem take_filter {l : List TWrite} {n : Nat} {y : TWrite} (ha : adj wLess l = true) (hy : l[n]? = some y) : l.filter (fun x => sleM x.Key y.Key) = l.take (n + 1) := by
  have hp := (adj_pair wLess_trans).1 ha
  have hsp : l = l.take (n + 1) ++ l.drop (n + 1) := (List.take_append_drop _ _).symm
  have h1 : (l.take (n + 1)).filter (fun x => sleM x.Key y.Key) = l.take (n + 1) := by
    rw [List.filter_eq_self]
    intro x hx
    obtain ⟨i, hi⟩ := List.getElem?_of_mem hx
    have hin : i < n + 1 := by have := (List.getElem?_eq_some_iff.1 hi).1; rw [List.length_take] at this; omega
    rw [List.getElem?_take_of_lt hin] at hi
    unfold sleM
    rcases Nat.lt_or_ge i n with h | h
    · have h9 : Op.bytesLess x.Key y.Key = true := adj_get wLess_trans ha h hi hy
      rw [h9]; rfl
    · have : i = n := by omega
      subst this
      rw [hy] at hi; injection hi with hi; subst hi; simp
  have h2 : (l.drop (n + 1)).filter (fun x => sleM x.Key y.Key) = [] := by
    rw [List.filter_eq_nil_iff]
    intro x hx
    obtain ⟨i, hi⟩ := List.getElem?_of_mem hx
    rw [List.getElem?_drop] at hi
    have h9 : Op.bytesLess y.Key x.Key = true := adj_get wLess_trans ha (show n < n + 1 + i by omega) hy hi
    unfold sleM
    simp only [Bool.or_eq_true, beq_iff_eq, not_or]
    refine ⟨fun hc => ?_, fun hc => ?_⟩
    · have := bytesLess_trans h9 hc; rw [bytesLess_irrefl] at this; cases this
    · rw [hc, bytesLess_irrefl] at h9; cases h9
  conv => lhs; rw [hsp]
  rw [List.filter_append, h1, h2, List.append_nil]
theorem copied_piece {m : TMove} {many : Int} (hg : goodMove m = true) (hm : 0 ≤ many) (hp1 : m.Phase = 1) (hc : copiedM m) : copiedM (pieceMS m many) := by
  have hc : m.From.filter (fun w => m.Over || sleM w.Key m.Last) = m.To := by
    rcases hc with h | h
    · omega
    · exact h
  obtain ⟨g1, g2⟩ := goodMove_l5 hg
  have ha := l5_adj g1
  right
  unfold pieceMS
  simp only
  rw [putLS_ins (l5_adj g2)]
  cases ho : m.Over
  · rw [ho] at hc
    simp only [Bool.false_or] at hc ⊢
    have hd : Down fun k => sleM k m.Last := by have := sleM_down m.Last false; simpa using this
    have hsplit : m.To ++ leftM m = m.From := by rw [leftM_eq, ← hc]; exact filter_split hd ha
    have hadjL : adj wLess (leftM m) = true := adj_filter _ ha
    have hsep : ∀ w ∈ pieceS m many, ∀ y ∈ m.To, Op.bytesLess y.Key w.Key = true := fun w hw y hy => by
      have h1 := (List.mem_filter.1 (List.mem_of_mem_take hw)).2
      rw [← hc] at hy
      have h2 := (List.mem_filter.1 hy).2
      rcases key_cases y.Key w.Key with h | h | h
      · exact h
      · unfold gtLast at h1; unfold sleM at h2; rw [h] at h2; rw [h2] at h1; simp at h1
      · have h3 : sleM w.Key m.Last = true := hd _ _ h h2
        unfold gtLast at h1; unfold sleM at h3; rw [h3] at h1; simp at h1
    rw [insL_back (show adj wLess (pieceS m many) = true from adj_take _ hadjL) hsep]
    by_cases hn : leastI many (leftM m).length = ((leftM m).length : Int)
    · have hall : pieceS m many = leftM m := by
        unfold pieceS; rw [hn, Int.toNat_natCast, List.take_length]
      rw [hall, hsplit]
      have hb : (leastI many (leftM m).length == ((leftM m).length : Int)) = true := by simpa using hn
      rw [hb]
      simp
    · have hb : (leastI many (leftM m).length == ((leftM m).length : Int)) = false := by simpa using hn
      rw [hb]
      simp only [Bool.false_or]
      have hlen := pieceS_len m hm
      have hlt : leastI many (leftM m).length = many ∧ many < (leftM m).length := by unfold leastI at hn ⊢; split at hn <;> (split <;> omega)
      cases hk : many.toNat with
      | zero =>
        have hnil : pieceS m many = [] := by unfold pieceS; rw [hlt.1, hk]; rfl
        rw [hnil, lastKey_none rfl, List.append_nil]
        exact hc
      | succ n =>
        obtain ⟨y, hy⟩ := Go.AV.get_some (show n < (leftM m).length by omega)
        have hpe : pieceS m many = (leftM m).take (n + 1) := by unfold pieceS; rw [hlt.1, hk]
        rw [hpe, lastKey_take hy]
        have hyl : sleM y.Key m.Last = false := by
          have h1 := (List.mem_filter.1 (List.mem_of_getElem? hy)).2
          unfold gtLast at h1; unfold sleM; simpa using h1
        have hTo : m.To.filter (fun w => sleM w.Key y.Key) = m.To := by
          rw [List.filter_eq_self]
          intro x hx
          rw [← hc] at hx
          have h2 := (List.mem_filter.1 hx).2
          rcases key_cases x.Key y.Key with h | h | h
          · unfold sleM; rw [h]; rfl
          · unfold sleM; simp [h]
          · have h3 : sleM y.Key m.Last = true := hd _ _ h h2
            rw [hyl] at h3; cases h3
        conv => lhs; rw [← hsplit]
        rw [List.filter_append, hTo, take_filter hadjL hy]
  · rw [ho] at hc
    have ht : ∀ (q : TWrite → Bool), m.From.filter (fun w => true || q w) = m.From := fun q => by rw [List.filter_eq_self]; intro w _; rfl
    rw [ht fun w => sleM w.Key m.Last] at hc
    rw [← hc]
    refine Eq.trans (b := m.From) ?_ ?_
    · rw [List.filter_eq_self]; intro w _; simp
    exact (insL_self ha fun w hw => piece_mem hw).symm
theorem goodKey_pos {k : Str} (h : goodKey k = true) : k ≠ [] := by
  intro hc; subst hc
  unfold goodKey at h; simp only [Bool.and_eq_true, within_iff] at h
  have := h.1.1; simp at this
theorem copied_step {m : TMove} {a : TMoveAct} (hg : goodMove m = true) (ha : isMoveAct m a = true) (hc : copiedM m) : copiedM (stepMS m a).1 := by
  by_cases k1 : a.Kind = 1
  · have h := copied_put hg (act_put ha k1).1 hc
    have he : doS m a = putMS m a.Write := by unfold doS; rw [if_pos k1]
    unfold stepMS
    rw [he]
    split
    · rename_i hd; rw [if_pos hd] at h; exact h
    · exact hc
  · unfold stepMS
    split
    · rename_i hd
      simp only
      by_cases hp : ((m.Phase != 1) || ((a.Kind == 3) && !m.Over)) = true
      · have he : doS m a = (m, false) := by unfold doS; rw [if_neg k1, if_pos hp]
        rw [he] at hd; cases hd
      · have hph : m.Phase = 1 := by
          by_cases h : m.Phase = 1
          · exact h
          · exact absurd (by simp [h]) hp
        by_cases k2 : a.Kind = 2
        · have he : doS m a = (pieceMS m a.Many, goodMoveS (pieceMS m a.Many)) := by unfold doS; rw [if_neg k1, if_neg hp, if_pos k2]
          rw [he]
          exact copied_piece hg (act_many0 ha k2) hph hc
        · by_cases k3 : a.Kind = 3
          · have he : doS m a = (⟨m.Low, m.High, 2, [], m.To, [], false⟩, true) := by unfold doS; rw [if_neg k1, if_neg hp, if_neg k2, if_pos k3]
            rw [he]; exact .inl rfl
          · have he : doS m a = (⟨m.Low, m.High, 1, m.From, [], [], false⟩, true) := by unfold doS; rw [if_neg k1, if_neg hp, if_neg k2, if_neg k3]
            rw [he]
            right
            simp only [Bool.false_or]
            rw [List.filter_eq_nil_iff]
            intro w hw hs
            have hk := (l5_all (goodMove_l5 hg).1 w hw).2
            unfold wGood l3Write at hk
            simp only [Bool.and_eq_true] at hk
            have hk2 : goodKey w.Key = true := by rw [goodKey_eq]; exact hk.1.1
            unfold sleM at hs
            simp only [Bool.or_eq_true, beq_iff_eq] at hs
            rcases hs with hs | hs
            · cases hw2 : w.Key <;> (rw [hw2] at hs; simp [Op.bytesLess] at hs)
            · exact goodKey_pos hk2 hs
    · exact hc
theorem stepMove_size (m : TMove) (a : TMoveAct) : (stepMove m a).1.size ≤ 2048 := by
  unfold stepMove
  split
  · rename_i hh
    simp only [Bool.and_eq_true] at hh
    simp only
    rw [stepM_eq hh.1 hh.2]
    exact goodMove_size (stepMS_good hh.1 hh.2)
  · exact Nat.zero_le _
theorem stepMove_ok (m : TMove) (a : TMoveAct) : (stepMove m a).2.2 = (goodMove m && isMoveAct m a) := by
  unfold stepMove; split
  · rename_i h; rw [h]
  · rename_i h; simpa using h
theorem isCopied_step {m : TMove} {a : TMoveAct} (h : (stepMove m a).2.2 = true) : goodMove (stepMove m a).1 = true ∧ (isCopied (stepMove m a).1).2 = true ∧ ((isCopied m).1 = true → (isCopied (stepMove m a).1).1 = true) := by
  unfold stepMove at h ⊢
  split at h
  · rename_i hh
    simp only [Bool.and_eq_true] at hh
    rw [if_pos (by simp [hh.1, hh.2])]
    simp only
    rw [stepM_eq hh.1 hh.2]
    have hg2 := stepMS_good hh.1 hh.2
    refine ⟨hg2, ?_, fun hc => ?_⟩
    · rw [isCopied_eq]; unfold isCopiedS; rw [← goodMove_eq, hg2]; rfl
    · rw [isCopied_eq] at hc ⊢
      unfold isCopiedS at hc ⊢
      rw [← goodMove_eq, hh.1] at hc
      rw [← goodMove_eq, hg2]
      simp only [Bool.not_true, Bool.false_eq_true, if_false] at hc ⊢
      exact (l22Copied_iff _).2 (copied_step hh.1 hh.2 ((l22Copied_iff _).1 hc))
  · cases h
end Go.M

set_option linter.unusedVariables false
set_option linter.unusedSimpArgs false
namespace Go.M
open Go.AV
theorem ahead_iff (a b : TFeedItem) : l23Ahead a b = true ↔ a.Time < b.Time ∨ (a.Time = b.Time ∧ (a.Group < b.Group ∨ (a.Group = b.Group ∧ Op.bytesLess a.Key b.Key = true))) := by
  unfold l23Ahead
  by_cases h1 : a.Time = b.Time
  · by_cases h2 : a.Group = b.Group
    · simp [h1, h2]
    · simp [h1, h2]
  · simp [h1]
theorem ahead_irr (a : TFeedItem) : l23Ahead a a = false := by
  cases h : l23Ahead a a with
  | false => rfl
  | true =>
    rw [ahead_iff] at h
    rcases h with h | ⟨_, h | ⟨_, h⟩⟩
    · omega
    · omega
    · rw [bytesLess_irrefl] at h; cases h
theorem ahead_trans (a b c : TFeedItem) (h : l23Ahead a b = true) (k : l23Ahead b c = true) : l23Ahead a c = true := by
  rw [ahead_iff] at h k ⊢
  rcases h with h | ⟨h1, h | ⟨h2, h⟩⟩
  · rcases k with k | ⟨k1, k⟩
    · exact .inl (by omega)
    · exact .inl (by omega)
  · rcases k with k | ⟨k1, k | ⟨k2, k⟩⟩
    · exact .inl (by omega)
    · exact .inr ⟨by omega, .inl (by omega)⟩
    · exact .inr ⟨by omega, .inl (by omega)⟩
  · rcases k with k | ⟨k1, k | ⟨k2, k⟩⟩
    · exact .inl (by omega)
    · exact .inr ⟨by omega, .inl (by omega)⟩
    · exact .inr ⟨by omega, .inr ⟨by omega, bytesLess_trans h k⟩⟩
def sameKey (a b : TFeedItem) : Prop := a.Time = b.Time ∧ a.Group = b.Group ∧ a.Key = b.Key
theorem ahead_tri (a b : TFeedItem) : l23Ahead a b = true ∨ sameKey a b ∨ l23Ahead b a = true := by
  rw [ahead_iff, ahead_iff]; unfold sameKey
  by_cases h1 : a.Time = b.Time
  · by_cases h2 : a.Group = b.Group
    · rcases key_cases a.Key b.Key with h | h | h
      · exact .inl (.inr ⟨h1, .inr ⟨h2, h⟩⟩)
      · exact .inr (.inl ⟨h1, h2, h⟩)
      · exact .inr (.inr (.inr ⟨h1.symm, .inr ⟨h2.symm, h⟩⟩))
    · by_cases h3 : a.Group < b.Group
      · exact .inl (.inr ⟨h1, .inl h3⟩)
      · exact .inr (.inr (.inr ⟨h1.symm, .inl (by omega)⟩))
  · by_cases h3 : a.Time < b.Time
    · exact .inl (.inl h3)
    · exact .inr (.inr (.inl (by omega)))
theorem ahead_same {a b : TFeedItem} (h : sameKey a b) (c : TFeedItem) : l23Ahead a c = l23Ahead b c := by
  obtain ⟨h1, h2, h3⟩ := h
  unfold l23Ahead; rw [h1, h2, h3]
theorem ahead_asym {a b : TFeedItem} (h : l23Ahead a b = true) : l23Ahead b a = false := by
  cases e : l23Ahead b a with
  | false => rfl
  | true => have := ahead_trans _ _ _ h e; rw [ahead_irr] at this; cases this
theorem ahead_swo : Swo l23Ahead where
  asym a b h := ahead_asym h
  ntr a b c h k := by
    cases e : l23Ahead c a with
    | false => rfl
    | true =>
      rcases ahead_tri b c with f | f | f
      · rw [ahead_trans _ _ _ f e] at h; cases h
      · rw [ahead_same f, e] at h; cases h
      · rw [f] at k; cases k
theorem lt_ahead : (fun x y : TFeedItem => decide (compareItems x y < 0)) = l23Ahead := by
  funext x y
  rw [← compare_ahead]
  by_cases h : compareItems x y < 0
  · simp [h]
  · simp [h]; omega
theorem items_swo : Swo fun x y : TFeedItem => decide (compareItems x y < 0) := by rw [lt_ahead]; exact ahead_swo
def Srt (l : List TFeedItem) : Prop := l.Pairwise fun a b => l23Ahead a b = true
theorem srt_adj {l : List TFeedItem} : adj l23Ahead l = true ↔ Srt l := adj_pair ahead_trans
theorem isFeed_iff (l : List TFeedItem) : isFeed l = true ↔ Srt l ∧ l.length ≤ 400 := by
  unfold isFeed
  rw [adj_congr compare_ahead, Bool.and_eq_true, srt_adj, decide_eq_true_eq]
  constructor
  · exact fun h => ⟨h.1, by have := h.2; omega⟩
  · exact fun h => ⟨h.1, by have := h.2; omega⟩
theorem l23Feed_iff (l : List TFeedItem) : l23Feed l = true ↔ (∀ x ∈ l, l23Good x = true) ∧ Srt l ∧ l.length ≤ 400 := by
  unfold l23Feed
  rw [Bool.and_eq_true, Bool.and_eq_true, srt_adj, decide_eq_true_eq, List.all_eq_true]
  constructor
  · exact fun h => ⟨h.1.1, h.1.2, by have := h.2; omega⟩
  · exact fun h => ⟨⟨h.1, h.2.1⟩, by have := h.2.2; omega⟩
theorem srt_cmp : ∀ {l : List TFeedItem}, Srt l → ∀ x ∈ l, ∀ y ∈ l, l23Ahead x y = false → l23Ahead y x = false → x = y
  | [], _, x, hx, _, _, _, _ => by cases hx
  | z :: l, h, x, hx, y, hy, h1, h2 => by
    obtain ⟨k1, k2⟩ := List.pairwise_cons.1 h
    rcases List.mem_cons.1 hx with e | ex
    · rcases List.mem_cons.1 hy with f | fy
      · rw [e, f]
      · rw [e, k1 y fy] at h1; cases h1
    · rcases List.mem_cons.1 hy with f | fy
      · rw [f, k1 x ex] at h2; cases h2
      · exact srt_cmp k2 x ex y fy h1 h2
theorem srt_ext : ∀ {a b : List TFeedItem}, Srt a → Srt b → (∀ x, x ∈ a ↔ x ∈ b) → a = b
  | [], [], _, _, _ => rfl
  | [], y :: b, _, _, h => by have := (h y).2 List.mem_cons_self; cases this
  | x :: a, [], _, _, h => by have := (h x).1 List.mem_cons_self; cases this
  | x :: a, y :: b, ha, hb, h => by
    obtain ⟨a1, a2⟩ := List.pairwise_cons.1 ha
    obtain ⟨b1, b2⟩ := List.pairwise_cons.1 hb
    have e : x = y := by
      rcases List.mem_cons.1 ((h x).1 List.mem_cons_self) with e | e
      · exact e
      · rcases List.mem_cons.1 ((h y).2 List.mem_cons_self) with f | f
        · exact f.symm
        · have := ahead_asym (b1 x e); rw [a1 y f] at this; cases this
    subst e
    rw [srt_ext a2 b2 fun z => ?_]
    constructor
    · intro hz
      rcases List.mem_cons.1 ((h z).1 (List.mem_cons_of_mem _ hz)) with e | e
      · subst e; have := a1 z hz; rw [ahead_irr] at this; cases this
      · exact e
    · intro hz
      rcases List.mem_cons.1 ((h z).2 (List.mem_cons_of_mem _ hz)) with e | e
      · subst e; have := b1 z hz; rw [ahead_irr] at this; cases this
      · exact e
/-! ### Putting one in -/
def putR : List TFeedItem → TFeedItem → List TFeedItem × Bool
  | [], x => ([x], true)
  | y :: l, x => if l23Ahead y x = true then (y :: (putR l x).1, (putR l x).2) else if l23Ahead x y = true then (x :: y :: l, true) else (y :: l, decide (y = x))
theorem putR_at {x : TFeedItem} : ∀ {l : List TFeedItem} {k : Nat}, k ≤ l.length → (∀ i y, i < k → l[i]? = some y → l23Ahead y x = true) → putR l x = (l.take k ++ (putR (l.drop k) x).1, (putR (l.drop k) x).2)
  | l, 0, _, _ => by simp
  | [], k + 1, h, _ => by simp at h
  | y :: l, k + 1, h, g => by
    rw [putR, if_pos (g 0 y (by omega) rfl), putR_at (l := l) (k := k) (by simpa using h) fun i z hi hz => g (i + 1) z (by omega) (by simpa using hz)]
    rfl
theorem putR_end {x : TFeedItem} {l : List TFeedItem} {k : Nat} (h : k ≤ l.length) (g : ∀ i y, i < k → l[i]? = some y → l23Ahead y x = true) (he : ∀ y, l[k]? = some y → l23Ahead x y = true) (hn : ∀ y, l[k]? = some y → l23Ahead y x = false) : putR l x = (l.take k ++ x :: l.drop k, true) := by
  rw [putR_at h g]
  by_cases hk : k < l.length
  · obtain ⟨y, hy⟩ := get_some hk
    rw [drop_some hy, putR, if_neg (by rw [hn y hy]; decide), if_pos (he y hy)]
  · rw [List.drop_eq_nil_of_le (by omega)]; rfl
theorem putR_stay {x y : TFeedItem} {l : List TFeedItem} {k : Nat} (h : k ≤ l.length) (g : ∀ i y, i < k → l[i]? = some y → l23Ahead y x = true) (hy : l[k]? = some y) (he : l23Ahead x y = false) (hn : l23Ahead y x = false) : putR l x = (l, decide (y = x)) := by
  rw [putR_at h g, drop_some hy, putR, if_neg (by rw [hn]; decide), if_neg (by rw [he]; decide)]
  show (l.take k ++ (y :: l.drop (k + 1)), decide (y = x)) = _
  rw [← drop_some hy, List.take_append_drop]
theorem putR_len (x : TFeedItem) : ∀ l : List TFeedItem, (putR l x).1.length ≤ l.length + 1
  | [] => Nat.le_refl _
  | y :: l => by
    have := putR_len x l
    rw [putR]
    split
    · show (putR l x).1.length + 1 ≤ l.length + 1 + 1; omega
    · split
      · exact Nat.le_refl _
      · exact Nat.le_succ _
theorem putR_mem (x : TFeedItem) : ∀ l : List TFeedItem, ∀ z ∈ (putR l x).1, z ∈ l ∨ z = x
  | [], z, h => by simp [putR] at h; exact .inr h
  | y :: l, z, h => by
    rw [putR] at h
    split at h
    · rcases List.mem_cons.1 h with rfl | h
      · exact .inl List.mem_cons_self
      · exact (putR_mem x l z h).imp (List.mem_cons_of_mem _) id
    · split at h
      · rcases List.mem_cons.1 h with rfl | h
        · exact .inr rfl
        · exact .inl h
      · exact .inl h
theorem putR_ok {x : TFeedItem} : ∀ {l : List TFeedItem}, Srt l → (putR l x).2 = true → Srt (putR l x).1 ∧ ∀ z, z ∈ (putR l x).1 ↔ z ∈ l ∨ z = x
  | [], _, _ => ⟨by unfold Srt putR; simp, fun z => by simp [putR]⟩
  | y :: l, h, g => by
    obtain ⟨k1, k2⟩ := List.pairwise_cons.1 h
    rw [putR] at g ⊢
    by_cases h1 : l23Ahead y x = true
    · rw [if_pos h1] at g ⊢
      obtain ⟨i1, i2⟩ := putR_ok k2 g
      refine ⟨List.pairwise_cons.2 ⟨fun z hz => ?_, i1⟩, fun z => ?_⟩
      · rcases (i2 z).1 hz with hz | rfl
        · exact k1 z hz
        · exact h1
      · show z ∈ y :: (putR l x).1 ↔ _
        rw [List.mem_cons, i2, List.mem_cons, or_assoc]
    · rw [if_neg h1] at g ⊢
      by_cases h2 : l23Ahead x y = true
      · rw [if_pos h2] at g ⊢
        refine ⟨List.pairwise_cons.2 ⟨fun z hz => ?_, h⟩, fun z => ?_⟩
        · rcases List.mem_cons.1 hz with rfl | hz
          · exact h2
          · exact ahead_trans _ _ _ h2 (k1 z hz)
        · show z ∈ x :: y :: l ↔ _
          rw [List.mem_cons, or_comm]
      · rw [if_neg h2] at g ⊢
        have e : y = x := by simpa using g
        subst e
        refine ⟨h, fun z => ?_⟩
        show z ∈ y :: l ↔ _
        constructor
        · exact .inl
        · rintro (hz | rfl)
          · exact hz
          · exact List.mem_cons_self
theorem putR_no {x : TFeedItem} : ∀ {l : List TFeedItem}, (putR l x).2 = false → ∃ y ∈ l, y ≠ x ∧ l23Ahead y x = false ∧ l23Ahead x y = false
  | [], g => by simp [putR] at g
  | y :: l, g => by
    rw [putR] at g
    by_cases h1 : l23Ahead y x = true
    · rw [if_pos h1] at g
      obtain ⟨z, z1, z2⟩ := putR_no (l := l) g
      exact ⟨z, List.mem_cons_of_mem _ z1, z2⟩
    · rw [if_neg h1] at g
      by_cases h2 : l23Ahead x y = true
      · rw [if_pos h2] at g; cases g
      · rw [if_neg h2] at g
        exact ⟨y, List.mem_cons_self, by simpa using g, by simpa using h1, by simpa using h2⟩
def mergeAll : List TFeedItem → List TFeedItem → Option (List TFeedItem)
  | o, [] => some o
  | o, x :: r => if (putR o x).2 = true then mergeAll (putR o x).1 r else none
def mergeF (a b : List TFeedItem) : List TFeedItem × Bool :=
  if l23Feed a = true ∧ l23Feed b = true then (match mergeAll a b with | some o => if 400 < o.length then ([], false) else (o, true) | none => ([], false)) else ([], false)
theorem mergeAll_step {l o b : List TFeedItem} {i : Nat} {x : TFeedItem} (h : mergeAll l b = mergeAll o (b.drop i)) (hx : b[i]? = some x) (k : (putR o x).2 = true) : mergeAll l b = mergeAll (putR o x).1 (b.drop (i + 1)) := by
  rw [h, drop_some hx, mergeAll, if_pos k]
theorem mergeAll_stop {l o b : List TFeedItem} {i : Nat} {x : TFeedItem} (h : mergeAll l b = mergeAll o (b.drop i)) (hx : b[i]? = some x) (k : (putR o x).2 = false) : mergeAll l b = none := by
  rw [h, drop_some hx, mergeAll, if_neg (by rw [k]; decide)]
theorem mergeAll_end {l o b : List TFeedItem} {i : Nat} (h : mergeAll l b = mergeAll o (b.drop i)) (hi : b.length ≤ i) : mergeAll l b = some o := by
  rw [h, List.drop_eq_nil_of_le hi]; rfl
theorem mergeAll_some : ∀ {b a r : List TFeedItem}, Srt a → mergeAll a b = some r → Srt r ∧ (∀ z, z ∈ r ↔ z ∈ a ∨ z ∈ b) ∧ r.length ≤ a.length + b.length
  | [], a, r, h, e => by injection e with e; subst e; exact ⟨h, fun z => by simp, Nat.le_refl _⟩
  | x :: b, a, r, h, e => by
    rw [mergeAll] at e
    split at e
    · rename_i hk
      obtain ⟨k1, k2⟩ := putR_ok h hk
      obtain ⟨i1, i2, i3⟩ := mergeAll_some k1 e
      refine ⟨i1, fun z => ?_, ?_⟩
      · rw [i2, k2, List.mem_cons, or_assoc]
      · have := putR_len x a; rw [List.length_cons]; omega
    · cases e
theorem mergeAll_none : ∀ {b a : List TFeedItem}, mergeAll a b = none → ∃ x y, (x ∈ a ∨ x ∈ b) ∧ (y ∈ a ∨ y ∈ b) ∧ x ≠ y ∧ l23Ahead x y = false ∧ l23Ahead y x = false
  | [], a, e => by cases e
  | x :: b, a, e => by
    rw [mergeAll] at e
    split at e
    · obtain ⟨u, v, hu, hv, hh⟩ := mergeAll_none e
      have : ∀ z, z ∈ (putR a x).1 ∨ z ∈ b → z ∈ a ∨ z ∈ x :: b := fun z hz => by
        rcases hz with hz | hz
        · rcases putR_mem x a z hz with hz | rfl
          · exact .inl hz
          · exact .inr List.mem_cons_self
        · exact .inr (List.mem_cons_of_mem _ hz)
      exact ⟨u, v, this u hu, this v hv, hh⟩
    · rename_i hk
      obtain ⟨y, y1, y2, y3, y4⟩ := putR_no (l := a) (x := x) (by simpa using hk)
      exact ⟨y, x, .inl y1, .inr List.mem_cons_self, y2, y3, y4⟩
theorem mergeAll_iff {a b r : List TFeedItem} (ha : Srt a) : mergeAll a b = some r ↔ Srt r ∧ ∀ z, z ∈ r ↔ z ∈ a ∨ z ∈ b := by
  constructor
  · exact fun h => ⟨(mergeAll_some ha h).1, (mergeAll_some ha h).2.1⟩
  · intro ⟨h1, h2⟩
    cases e : mergeAll a b with
    | none =>
      obtain ⟨x, y, hx, hy, h3, h4, h5⟩ := mergeAll_none e
      exact absurd (srt_cmp h1 x ((h2 x).2 hx) y ((h2 y).2 hy) h4 h5) h3
    | some q =>
      obtain ⟨q1, q2, _⟩ := mergeAll_some ha e
      rw [srt_ext q1 h1 fun z => by rw [q2, h2]]
theorem mergeAll_comm {a b : List TFeedItem} (ha : Srt a) (hb : Srt b) : mergeAll a b = mergeAll b a := by
  apply Option.ext; intro r
  rw [mergeAll_iff ha, mergeAll_iff hb]
  exact and_congr_right fun _ => forall_congr' fun z => by rw [or_comm (a := z ∈ a)]
/-! ### What the other one does -/
theorem cmpN_mem {l : List TFeedItem} {z : TFeedItem} : ∀ {n : Nat}, z ∈ cmpN l n ↔ ∃ i, i < n ∧ l[i]? = some z
  | 0 => by constructor
            · intro h; cases h
            · rintro ⟨i, h, _⟩; omega
  | n + 1 => by
    show z ∈ (if n ≠ 0 ∧ l[n]? = l[n - 1]? then cmpN l n else cmpN l n ++ (l[n]?).toList) ↔ _
    split
    · rename_i h
      rw [cmpN_mem]
      constructor
      · exact fun ⟨i, h1, h2⟩ => ⟨i, by omega, h2⟩
      · intro ⟨i, h1, h2⟩
        by_cases e : i = n
        · subst e; exact ⟨i - 1, by omega, h.2 ▸ h2⟩
        · exact ⟨i, by omega, h2⟩
    · rw [List.mem_append, cmpN_mem, Option.mem_toList]
      constructor
      · rintro (⟨i, h1, h2⟩ | h)
        · exact ⟨i, by omega, h2⟩
        · exact ⟨n, by omega, h⟩
      · intro ⟨i, h1, h2⟩
        by_cases e : i = n
        · subst e; exact .inr h2
        · exact .inl ⟨i, by omega, h2⟩
theorem cmpL_mem (l : List TFeedItem) (z : TFeedItem) : z ∈ cmpL l ↔ z ∈ l := by
  unfold cmpL
  rw [cmpN_mem]
  constructor
  · exact fun ⟨i, _, h⟩ => List.mem_of_getElem? h
  · intro h
    obtain ⟨i, hi⟩ := List.getElem?_of_mem h
    exact ⟨i, (List.getElem?_eq_some_iff.1 hi).1, hi⟩
theorem cmpN_srt {l : List TFeedItem} (hs : SortedOn l23Ahead l 0 l.length) (hc : ∀ x ∈ l, ∀ y ∈ l, l23Ahead x y = false → l23Ahead y x = false → x = y) : ∀ {n : Nat}, n ≤ l.length → Srt (cmpN l n)
  | 0, _ => List.Pairwise.nil
  | n + 1, hn => by
    have ih := cmpN_srt hs hc (n := n) (by omega)
    show Srt (if n ≠ 0 ∧ l[n]? = l[n - 1]? then cmpN l n else cmpN l n ++ (l[n]?).toList)
    split
    · exact ih
    · rename_i h
      obtain ⟨x, hx⟩ := get_some (show n < l.length by omega)
      rw [hx]
      refine List.pairwise_append.2 ⟨ih, List.pairwise_singleton _ _, fun z hz w hw => ?_⟩
      simp at hw; subst hw
      obtain ⟨i, hi, hzi⟩ := cmpN_mem.1 hz
      cases e : l23Ahead z w with
      | true => rfl
      | false =>
        exfalso
        have h1 := hs i n z w (Nat.zero_le _) hi (by omega) hzi hx
        have h2 := hc z (List.mem_of_getElem? hzi) w (List.mem_of_getElem? hx) e h1
        subst h2
        apply h
        refine ⟨by omega, ?_⟩
        by_cases f : i = n - 1
        · rw [hx, ← f, hzi]
        · obtain ⟨v, hv⟩ := get_some (show n - 1 < l.length by omega)
          have h3 := hs (n - 1) n v z (Nat.zero_le _) (by omega) (by omega) hv hx
          have h4 := hs i (n - 1) z v (Nat.zero_le _) (by omega) (by omega) hzi hv
          rw [hx, hv, hc z (List.mem_of_getElem? hzi) v (List.mem_of_getElem? hv) h3 h4]
def mergeI (l : List TFeedItem) : List TFeedItem × Bool := if isFeed (cmpL l) = true then (cmpL l, true) else ([], false)
theorem merge_eq {a b l : List TFeedItem} (ha : l23Feed a = true) (hb : l23Feed b = true) (hp : l.Perm (a ++ b)) (hs : SortedOn l23Ahead l 0 l.length) : mergeI l = mergeF a b := by
  have sa := ((l23Feed_iff a).1 ha).2.1
  have hm : ∀ z, z ∈ cmpL l ↔ z ∈ a ∨ z ∈ b := fun z => by rw [cmpL_mem, hp.mem_iff, List.mem_append]
  unfold mergeI mergeF
  rw [if_pos (c := l23Feed a = true ∧ l23Feed b = true) ⟨ha, hb⟩]
  cases e : mergeAll a b with
  | none =>
    obtain ⟨x, y, hx, hy, h3, h4, h5⟩ := mergeAll_none e
    rw [if_neg fun h => h3 (srt_cmp ((isFeed_iff _).1 h).1 x ((hm x).2 hx) y ((hm y).2 hy) h4 h5)]
  | some r =>
    obtain ⟨q1, q2, _⟩ := mergeAll_some sa e
    have hc : Srt (cmpL l) := cmpN_srt hs (fun x hx y hy => srt_cmp q1 x (by rw [q2, ← hm, cmpL_mem]; exact hx) y (by rw [q2, ← hm, cmpL_mem]; exact hy)) (Nat.le_refl _)
    have he : cmpL l = r := srt_ext hc q1 fun z => by rw [hm, q2]
    rw [he] at hc ⊢
    by_cases hl : 400 < r.length
    · rw [if_neg fun h => absurd ((isFeed_iff _).1 h).2 (by omega)]
      show _ = (if 400 < r.length then ([], false) else (r, true))
      rw [if_pos hl]
    · rw [if_pos ((isFeed_iff _).2 ⟨hc, by omega⟩)]
      show _ = (if 400 < r.length then ([], false) else (r, true))
      rw [if_neg hl]
theorem mergeF_cases (a b : List TFeedItem) : mergeF a b = ([], false) ∨ ∃ r, mergeF a b = (r, true) ∧ l23Feed a = true ∧ l23Feed b = true ∧ mergeAll a b = some r ∧ r.length ≤ 400 := by
  unfold mergeF
  split
  · rename_i h
    cases e : mergeAll a b with
    | none => exact .inl rfl
    | some r =>
      show (if 400 < r.length then ([], false) else (r, true)) = _ ∨ ∃ q, (if 400 < r.length then ([], false) else (r, true)) = _ ∧ _
      split
      · exact .inl rfl
      · exact .inr ⟨r, rfl, h.1, h.2, rfl, by omega⟩
  · exact .inl rfl
theorem mergeF_comm (a b : List TFeedItem) : mergeF a b = mergeF b a := by
  unfold mergeF
  by_cases h : l23Feed a = true ∧ l23Feed b = true
  · rw [if_pos h, if_pos h.symm, mergeAll_comm ((l23Feed_iff a).1 h.1).2.1 ((l23Feed_iff b).1 h.2).2.1]
  · rw [if_neg h, if_neg fun k => h k.symm]
theorem mergeF_ok {a b r : List TFeedItem} (h : mergeF a b = (r, true)) : l23Feed r = true ∧ mergeF r b = (r, true) ∧ r.length ≤ a.length + b.length ∧ ∀ z ∈ r, z ∈ a ∨ z ∈ b := by
  rcases mergeF_cases a b with e | ⟨q, e, ha, hb, hm, hl⟩
  · rw [e] at h; cases h
  · rw [e] at h; injection h with h _; subst h
    obtain ⟨a1, a2, a3⟩ := (l23Feed_iff a).1 ha
    obtain ⟨b1, b2, b3⟩ := (l23Feed_iff b).1 hb
    obtain ⟨q1, q2, q3⟩ := mergeAll_some a2 hm
    have hg : l23Feed q = true := (l23Feed_iff q).2 ⟨fun x hx => ((q2 x).1 hx).elim (a1 x) (b1 x), q1, hl⟩
    have hm2 : mergeAll q b = some q := (mergeAll_iff q1).2 ⟨q1, fun z => by rw [q2]; constructor; exact .inl; exact fun hz => hz.elim id .inr⟩
    refine ⟨hg, ?_, q3, fun z hz => (q2 z).1 hz⟩
    unfold mergeF
    rw [if_pos ⟨hg, hb⟩, hm2]
    show (if 400 < q.length then ([], false) else (q, true)) = _
    rw [if_neg (by omega)]
end Go.M
