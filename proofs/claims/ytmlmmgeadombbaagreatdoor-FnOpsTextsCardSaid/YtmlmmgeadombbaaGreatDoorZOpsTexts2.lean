/- Texts of the claim, part 2. -/
import Derived.Laws.BytesArg
import Derived.Laws.IdiomStrings
import Derived.Lib.AppendZerosOnto
import Derived.Lib.Overlaps
import Derived.Lib.ItoaNum
import Derived.Lib.ItoaMem
import Derived.Lib.Split
import Derived.Lib.SplitLaws
import Derived.Lib.AtoiAllCases
import Derived.Lib.Strings
import Derived.Lib.IndexMore
import Derived.Lib.Join
import Derived.ProofKit
import Derived.OpenShut
import Derived.ShutString
import Derived.ChangeOld
import Derived.Sort.Grow
import Derived.Lib.LaidTab
import Derived.Test.YtmlmmgeadombbaaGreatDoorZOpsTexts1

set_option linter.unusedVariables false
set_option linter.unusedSimpArgs false
namespace Go.AV
open Go.RowKit (Below)
section
variable {P : Program} {G : Nat → Prop} {n : Nat} {own : List Own} {o : Oper} {E : EnvF}
/-! ### Nil slices are owned by everyone -/
theorem nil_ok (R : RHeap) (w : World) (e : TypeId) (sz : Nat) : Own.ok R w (.arr (.slice none 0 0) e sz []) :=
  ⟨fun b hb => by simp [Value.ownBlock] at hb, fun x hx => by simp at hx, [], ⟨by simp, .inl ⟨rfl, rfl⟩⟩, ⟨rfl, fun i v x h => by simp at h⟩⟩
theorem le_nilown {env : List (Nat × AV)} (e : TypeId) (sz : Nat) : Le G n ⟨own, env⟩ ⟨.arr (.slice none 0 0) e sz [] :: own, env⟩ := fun w0 R0 R a w ⟨h1, h2, h3⟩ =>
  ⟨R, RSub.refl _, ⟨h1.os, h1.tape, h1.output, h1.size, h1.block, h1.rle, h1.rold, fun q hq => by
      rcases List.mem_cons.1 hq with rfl | hq
      · exact nil_ok R w e sz
      · exact h1.owned q hq, fun q hq b hb => by
      rcases List.mem_cons.1 hq with rfl | hq
      · simp [Own.blk, Value.ownBlock] at hb
      · exact h1.fresh q hq b hb, by simpa [List.filterMap_cons, Own.blk, Value.ownBlock] using h1.sep⟩, h2, h3⟩
theorem le_perm {env : List (Nat × AV)} {own' : List Own} (h : own.Perm own') : Le G n ⟨own, env⟩ ⟨own', env⟩ := fun _ _ R _ _ ⟨h1, h2, h3⟩ => ⟨R, RSub.refl _, core_perm h1 h, h2, h3⟩
theorem le_pick {env : List (Nat × AV)} {sel rest : List Own} (is : List Nat) (h : pick own is = (sel, rest)) : Le G n ⟨own, env⟩ ⟨sel ++ rest, env⟩ := fun _ _ R _ _ ⟨h1, h2, h3⟩ => ⟨R, RSub.refl _, core_pick h1 h, h2, h3⟩
section
variable {α : Type} {ok : α → Prop} {O : α → List Own} {V : α → AV} {fn : Func}
theorem retG_le {s s' : AState} (h : Le G n s s') (k : RetOkG P G n fn s' ok O V) : RetOkG P G n fn s ok O V := fun w0 R0 R a w hs => by
  obtain ⟨R1, h1, h2⟩ := h w0 R0 R a w hs
  obtain ⟨x, v, R2, q1, q2, q3, q4, q5⟩ := k w0 R0 R1 a w h2
  exact ⟨x, v, R2, q1, q2, q3, h1.trans q4, q5⟩
theorem retG_nil {env : List (Nat × AV)} (e : TypeId) (sz : Nat) (k : RetOkG P G n fn ⟨.arr (.slice none 0 0) e sz [] :: own, env⟩ ok O V) : RetOkG P G n fn ⟨own, env⟩ ok O V := retG_le (le_nilown e sz) k
end
theorem sq_nilown {ops : Array Oper} {rs : List Oper} {K : AState → Prop} {env : List (Nat × AV)} (e : TypeId) (sz : Nat) (k : ASeq P G n ops (o :: rs) ⟨.arr (.slice none 0 0) e sz [] :: own, env⟩ K) : ASeq P G n ops (o :: rs) ⟨own, env⟩ K := sq_le (le_nilown e sz) k
theorem awp_nilown {c : Code} {Q : Exit → AState → Prop} {env : List (Nat × AV)} (e : TypeId) (sz : Nat) (k : AWP P G n c Q ⟨.arr (.slice none 0 0) e sz [] :: own, env⟩) : AWP P G n c Q ⟨own, env⟩ := AWP.le (le_nilown e sz) k
/-- A slot that holds nil, asl an own array. -/
theorem le_nilslot {env : List (Nat × AV)} (t : Nat) (e : TypeId) (sz : Nat) : Le G n ⟨own, env⟩ ⟨.arr (.slice none 0 0) e sz [] :: own, env⟩ := le_nilown e sz

/-! ### Lending what lies in boxes; flat aggregates -/
theorem lt_boxc {b : Nat} {t : TypeId} {cs ys : List AV} (hm : Own.box b t cs ∈ own) (h : LendC own cs ys) : LendTo own (AV.ptr b 0) (AV.eptr ys) := fun G w0 R0 R w u hc hu => by
  cases (show u = _ from hu)
  obtain ⟨_, vs, hb, hd⟩ := hc.owned _ hm
  have hl : lend own w R b = some (.cells vs.toArray t (0, 0)) := by
    unfold lend; rw [ownB_mem hm rfl]; exact hb
  refine ⟨_, rfl, fun j y hy => ?_⟩
  have hjx : j < cs.length := by rw [h.1]; exact (List.getElem?_eq_some_iff.1 hy).1
  have hx := List.getElem?_eq_getElem hjx
  have hj : j < vs.length := by rw [hd.1]; exact hjx
  have hv : vs[j]? = some vs[j] := List.getElem?_eq_getElem hj
  exact ⟨vs[j], by rw [addr_add]; simp [rcell, hl, hv], h.2 j _ y hx hy G w0 R0 R w _ hc (hd.2 j _ _ hv hx).1, (hd.2 j _ _ hv hx).2⟩
theorem lt_nils {sz : Nat} : LendTo own AV.nils (AV.list sz []) := fun G w0 R0 R w u hc hu => nils_list _ _ hu
theorem flat_tup {xs : List AV} (h : ∀ c ∈ xs, Flat c) : Flat (AV.tup xs) := fun R R' v ⟨vs, e, hl, hd⟩ => ⟨vs, e, hl, fun i u x hu hx => h x (List.mem_of_getElem? hx) R R' u (hd i u x hu hx)⟩
theorem flat_agg {xs : List AV} (h : ∀ c ∈ xs, Flat c) : Flat (AV.agg xs) := fun R R' v ⟨vs, e, hd⟩ => ⟨vs, e, denC_flat hd h⟩
theorem flatO_box {b : Nat} {t : TypeId} {cs : List AV} (h : ∀ c ∈ cs, Flat c) : FlatO (.box b t cs) := h
theorem flatO_arr {v : Value} {t : TypeId} {sz : Nat} {es : List (List AV)} (h : ∀ e ∈ es, ∀ c ∈ e, Flat c) : FlatO (.arr v t sz es) := h
theorem flate_nil : ∀ e ∈ ([] : List (List AV)), ∀ c ∈ e, Flat c := fun e h => by simp at h
theorem flate_cons {x : List AV} {xs : List (List AV)} (h : ∀ c ∈ x, Flat c) (k : ∀ e ∈ xs, ∀ c ∈ e, Flat c) : ∀ e ∈ x :: xs, ∀ c ∈ e, Flat c := fun e he => by
  rcases List.mem_cons.1 he with rfl | he
  · exact h
  · exact k e he
theorem flate_app {xs ys : List (List AV)} (h : ∀ e ∈ xs, ∀ c ∈ e, Flat c) (k : ∀ e ∈ ys, ∀ c ∈ e, Flat c) : ∀ e ∈ xs ++ ys, ∀ c ∈ e, Flat c := fun e he => by
  rcases List.mem_append.1 he with he | he
  · exact h e he
  · exact k e he
theorem flate_map {α : Type} {f : α → List AV} {l : List α} (h : ∀ x, ∀ c ∈ f x, Flat c) : ∀ e ∈ l.map f, ∀ c ∈ e, Flat c := fun e he => by
  obtain ⟨x, _, rfl⟩ := List.mem_map.1 he
  exact h x
theorem flate_rep {m : Nat} {z : List AV} (h : ∀ c ∈ z, Flat c) : ∀ e ∈ List.replicate m z, ∀ c ∈ e, Flat c := fun e he => by
  rw [(List.mem_replicate.1 he).2]; exact h
theorem flat_nils : Flat AV.nils := flat_is _
theorem flat_ptr (b off : Nat) : Flat (AV.ptr b off) := flat_is _

/-! ### Fields of an own array's elements -/
theorem elemPtr_add {v : Value} {j k : Nat} {a : Addr} (h : elemPtr v j = .pointer (some a)) : elemPtr v (j + k) = .pointer (some (a.add k)) := by
  unfold elemPtr at *
  split at h
  · injection h with h; injection h with h; subst h; rw [add_add]
  · injection h with h; cases h
theorem app_get {α : Type} {A B : List α} {y : α} {k : Nat} (hk : A.length = k) : (A ++ y :: B)[k]? = some y := by subst hk; simp
theorem app_set {α : Type} {A B : List α} {y z : α} {k : Nat} (hk : A.length = k) : (A ++ y :: B).set k z = A ++ z :: B := by subst hk; simp
theorem w_fldX {t e : TypeId} {p : Operand} {fs : Array Field} {fd : Field} {f m k : Nat} {v : Value} {sz : Nat} {es : List (List AV)} {ys : List AV} (i : Nat) (ho : o.op = .fieldAddr t p f) (ht : P.underlying t = some (.struct fs)) (hk : fs[f]? = some fd) (hs : ∀ w, (sizeOf fd.type).run P w = .ok (m + 1) w)
    (hp : Ev E p (AV.is (elemPtr v (k * sz)))) (hi : own[i]? = some (.arr v e sz es)) (hpos : Nat.ble 1 sz = true) (hy : es[k]? = some ys) : OpW P G n own o E (AV.is (elemPtr v (k * sz + fd.offset))) := opW_core fun w0 R0 R a w hc he => by
  have e1 : a.eval p = _ := ev_use hp (by simp [ho, Op.operands]) he
  have hok := hc.owned _ (List.mem_of_getElem? hi)
  have hu := hok.2.1
  have hyl : ys.length = sz := hu ys (List.mem_of_getElem? hy)
  have hb1 := Nat.le_of_ble_eq_true hpos
  obtain ⟨g, u0, h1, _⟩ := own_cells hok (flatten_get hu hy (List.getElem?_eq_getElem (show 0 < ys.length by omega)))
  simp only [Nat.add_zero] at h1
  rw [h1] at e1
  refine ⟨_, ?_, show elemPtr v (k * sz + fd.offset) = _ from rfl⟩
  rw [elemPtr_add h1]
  simp only [execOp, ho, e1, Instr.fieldAt, run_underlying ht, hk, Instr.sureAddr, fieldPlace, hs, Sem.run_bind, Sem.run_pure, Result.andThen_ok, Sem.run_ite, Nat.add_eq_zero_iff, Nat.succ_ne_self, Nat.one_ne_zero, and_false, if_false]
theorem w_loadXf {t e : TypeId} {p : Operand} {v : Value} {sz k off : Nat} {es : List (List AV)} {ys : List AV} {x : AV} (i : Nat) (ho : o.op = .load t p) (hp : Ev E p (AV.is (elemPtr v (k * sz + off)))) (hi : own[i]? = some (.arr v e sz es)) (ha : ∀ w, (isAgg t).run P w = .ok false w) (hy : es[k]? = some ys) (hx : ys[off]? = some x) : OpW P G n own o E x := opW_core fun w0 R0 R a w hc he => by
  have e1 : a.eval p = _ := ev_use hp (by simp [ho, Op.operands]) he
  have hok := hc.owned _ (List.mem_of_getElem? hi)
  obtain ⟨g, u, h1, _, h2, h3, _⟩ := own_cells hok (flatten_get hok.2.1 hy hx)
  rw [h1] at e1
  exact ⟨u, by simp only [execOp, ho, e1, Instr.loadAt, Instr.sureAddr, loadVar, Sem.run_bind, Sem.run_pure, Result.andThen_ok, ha, Bool.false_eq_true, if_false, run_load, h2], h3⟩
theorem flatten_set1 {sz : Nat} : ∀ {es : List (List AV)} {k off : Nat} {ys : List AV} {y : AV}, (∀ e ∈ es, e.length = sz) → es[k]? = some ys → off < sz → (es.set k (ys.set off y)).flatten = es.flatten.set (k * sz + off) y
  | [], k, off, ys, y, _, h, _ => by simp at h
  | e0 :: es, 0, off, ys, y, hu, h, ho => by
    simp at h; subst h
    have h0 : e0.length = sz := hu e0 (by simp)
    simp only [List.set_cons_zero, List.flatten_cons, Nat.zero_mul, Nat.zero_add]
    rw [List.set_append_left _ _ (by omega)]
  | e0 :: es, k + 1, off, ys, y, hu, h, ho => by
    have h0 : e0.length = sz := hu e0 (by simp)
    simp only [List.set_cons_succ, List.flatten_cons]
    rw [flatten_set1 (fun e he => hu e (by simp [he])) (by simpa using h) ho, List.set_append_right _ _ (by rw [h0, Nat.add_mul]; omega)]
    congr 2
    rw [h0, Nat.add_mul]; omega
theorem set_take {α : Type} {A : List α} {u : α} {k m : Nat} (h : k < m) : (A.set k u).take m = (A.take m).set k u := by
  rw [List.take_set]
/-- One cell of an element is written. -/
theorem sq_storeX {ops : Array Oper} {rest : List Oper} {env : List (Nat × AV)} {K : AState → Prop} {t e : TypeId} {p q : Operand} {v : Value} {sz k off : Nat} {es : List (List AV)} {ys : List AV} {x y : AV} (i : Nat) (hg : o.guard = none) (ho : o.op = .store t p q) (hd : o.dst = none)
    (hp : Ev (getv · env) p (AV.is (elemPtr v (k * sz + off)))) (hq : Ev (getv · env) q x) (hx : AsCells x [y]) (hi : own[i]? = some (.arr v e sz es)) (hs : ∀ w, (sizeOf t).run P w = .ok 1 w) (hy : es[k]? = some ys) (hl' : Nat.blt off sz = true)
    (c : ASeq P G n ops rest ⟨own.set i (.arr v e sz (es.set k (ys.set off y))), env⟩ K) : ASeq P G n ops (o :: rest) ⟨own, env⟩ K :=
  opS_run hg fun w0 R0 R a w ⟨h1, h2, h3, h4⟩ => by
    have e1 : a.eval p = _ := ev_st (s := ⟨own, env⟩) (o := o) hp h2
    have e2 := hx R _ (ev_st (s := ⟨own, env⟩) (o := o) hq h2)
    have hl : off < sz := Nat.blt_eq.mp hl'
    have hok := h1.owned _ (List.mem_of_getElem? hi)
    obtain ⟨hR, hu, xs, hown, hdc⟩ := hok
    have hyl : ys.length = sz := hu ys (List.mem_of_getElem? hy)
    have hkl : k < es.length := (List.getElem?_eq_some_iff.1 hy).1
    have hsz : (a.eval q).cells.size = 1 := by rw [← Array.length_toList]; exact e2.1
    obtain ⟨u, hcu⟩ : ∃ u, (a.eval q).cells.toList = [u] := by
      have h9 : (a.eval q).cells.toList.length = 1 := e2.1
      match hm : (a.eval q).cells.toList, h9 with
      | [u], _ => exact ⟨u, rfl⟩
    rw [hcu] at e2
    have hu1 := e2.2 0 u y rfl rfl
    rcases hown.2 with ⟨rfl, hz⟩ | ⟨g, cap, cur, rfl, hbase, hg', hn, hm, hcs, htake⟩
    · have := (List.getElem?_eq_some_iff.1 hy).1
      rw [hz] at this; simp at this
    · have hfl : xs.length = es.length * sz := hown.1
      have hk1 : k * sz + sz ≤ es.length * sz := by
        have := Nat.mul_le_mul_right sz (show k + 1 ≤ es.length by omega)
        rwa [Nat.add_mul, Nat.one_mul] at this
      have hk2 : es.length * sz ≤ cap * sz := Nat.mul_le_mul_right sz hn
      have e3 : elemPtr (.slice (some ⟨g, 0, none⟩) es.length cap) (k * sz + off) = .pointer (some ⟨g, k * sz + off, none⟩) := by
        show Value.pointer (some (Addr.add ⟨g, 0, none⟩ (k * sz + off))) = _
        rw [addr_add, Nat.zero_add]
      have hcur : w.heap[g]? = some (.cells cur.toList.toArray e (0, 0)) := by simpa using hg'
      have hst := run_storeAt (P := P) (t := t) (off := k * sz + off) (u := a.eval q) hcur (by rw [hsz]; exact hs w) (by rw [hsz, Array.length_toList, hcs]; omega) (fun z hz => by
        rw [hcu] at hz; rw [List.mem_singleton.1 hz]; exact hu1.2)
      have hlist : cur.toList.take (k * sz + off) ++ (a.eval q).cells.toList ++ cur.toList.drop (k * sz + off + (a.eval q).cells.size) = cur.toList.set (k * sz + off) u := by
        rw [hcu, hsz, List.set_eq_take_append_cons_drop, if_pos (by rw [Array.length_toList, hcs]; omega)]
        simp
      rw [hlist] at hst
      have hrun : (execOp a.eval o).run P w = .ok .skip (w.setRow g (cur.toList.set (k * sz + off) u).toArray) := by
        simp only [execOp, ho, e1, e3, hst, Sem.run_bind, Sem.run_pure, Result.andThen_ok]
      unfold Oper.wp
      rw [hrun, Oper.upon_skip, hd]
      refine ⟨_, R, c, RSub.refl _, core_set h1 hi rfl rfl ⟨hR, fun z hz => ?_, xs.set (k * sz + off) u, ⟨?_, .inr ⟨g, cap, _, by rw [List.length_set], hbase, setRow_heap w g _ _ e _ hg', by rw [List.length_set]; exact hn, hm, ?_, ?_⟩⟩, ?_⟩ (setRow_grown w g _), h2, h3, h4⟩
      · rcases List.mem_or_eq_of_mem_set hz with h | h
        · exact hu z h
        · rw [h, List.length_set]; exact hyl
      · rw [List.length_set, List.length_set]; exact hfl
      · simp; omega
      · rw [List.length_set, ← htake]
        show List.take (es.length * sz) (cur.toList.set (k * sz + off) u) = _
        rw [List.take_set]
      · rw [flatten_set1 hu hy hl]
        refine ⟨by rw [List.length_set, List.length_set]; exact hdc.1, fun j z x' hz hx' => ?_⟩
        by_cases hj : k * sz + off = j
        · subst hj
          rw [List.getElem?_set_self (by rw [hfl]; omega)] at hz
          rw [List.getElem?_set_self (by rw [← hdc.1, hfl]; omega)] at hx'
          injection hz with hz; injection hx' with hx'
          subst hz; subst hx'; exact hu1
        · rw [List.getElem?_set_ne hj] at hz hx'
          exact hdc.2 j z x' hz hx'
theorem sq_storeXA {ops : Array Oper} {rest : List Oper} {env : List (Nat × AV)} {K : AState → Prop} {t e : TypeId} {p q : Operand} {v : Value} {sz k off : Nat} {A B : List (List AV)} {ys : List AV} {x y : AV} (i : Nat) (hg : o.guard = none) (ho : o.op = .store t p q) (hd : o.dst = none)
    (hp : Ev (getv · env) p (AV.is (elemPtr v (k * sz + off)))) (hq : Ev (getv · env) q x) (hx : AsCells x [y]) (hi : own[i]? = some (.arr v e sz (A ++ ys :: B))) (hs : ∀ w, (sizeOf t).run P w = .ok 1 w) (hk : A.length = k) (hl' : Nat.blt off sz = true)
    (c : ASeq P G n ops rest ⟨own.set i (.arr v e sz (A ++ ys.set off y :: B)), env⟩ K) : ASeq P G n ops (o :: rest) ⟨own, env⟩ K :=
  sq_storeX i hg ho hd hp hq hx hi hs (app_get hk) hl' (by rw [app_set hk]; exact c)
/-- An element is written whole, where the row stands parted. -/
theorem sq_storeAA {ops : Array Oper} {rest : List Oper} {env : List (Nat × AV)} {K : AState → Prop} {e : TypeId} {p q : Operand} {v : Value} {sz k : Nat} {A B : List (List AV)} {ys zs : List AV} {x : AV} (i : Nat) (hg : o.guard = none) (ho : o.op = .store e p q) (hd : o.dst = none)
    (hp : Ev (getv · env) p (AV.is (elemPtr v (k * sz)))) (hq : Ev (getv · env) q x) (hx : AsCells x ys) (hi : own[i]? = some (.arr v e sz (A ++ zs :: B))) (hs : ∀ w, (sizeOf e).run P w = .ok sz w) (hys : ys.length = sz) (hk : A.length = k)
    (c : ASeq P G n ops rest ⟨own.set i (.arr v e sz (A ++ ys :: B)), env⟩ K) : ASeq P G n ops (o :: rest) ⟨own, env⟩ K :=
  sq_storeA i hg ho hd hp hq hx hi hs hys (by subst hk; simp) (by rw [app_set hk]; exact c)
/-- A literal row of the call's own. -/
theorem afill_len {sz : Nat} : ∀ (asl : List (Nat × List AV)) (cs cs' : List AV), afill (fun i => some (i * sz, sz)) cs asl = some cs' → cs'.length = cs.length
  | [], cs, cs', h => by simp only [afill, Option.some.injEq] at h; rw [h]
  | b :: asl, cs, cs', h => by
    obtain ⟨i, ys⟩ := b
    simp only [afill] at h
    cases hb : (Nat.beq ys.length sz && Nat.ble (i * sz + ys.length) cs.length) with
    | false => rw [hb] at h; cases h
    | true =>
      rw [hb] at h
      simp only [Bool.and_eq_true] at hb
      have := Nat.le_of_ble_eq_true hb.2
      rw [afill_len asl _ _ h]
      simp [splice]; omega
theorem sq_bsliceO {ops : Array Oper} {rest : List Oper} {env : List (Nat × AV)} {K : AState → Prop} {t e : TypeId} {d len sz : Nat} {z : Value} {ps : Array (Nat × Operand)} {asl : List (Nat × List AV)} {cs : List AV} {es : List (List AV)} (hg : o.guard = none) (ho : o.op = .buildSlice t len ps) (hd : o.dst = some d) (hn : Nat.blt d n = true) (ht : P.underlying t = some (.slice e)) (hsz : ∀ w, (sizeOf e).run P w = .ok sz w) (hz : ∀ w, (zeroValue e).run P w = .ok z w)
    (hl : Nat.ble (len * sz) 1000 = true) (hl2 : Nat.ble len 1000 = true) (hzs : z.cells.size = sz) (h1' : z.cells.toList.all Value.oneCell' = true) (hp : EvP (getv · env) ps.toList asl) (hc : afill (fun i => some (i * sz, sz)) ((List.range (len * sz)).map fun i => zeroA (z.cells[i % z.cells.size]!)) asl = some cs) (hes : chunks sz len cs = es)
    (k : ∀ v', ASeq P G n ops rest ⟨.arr v' e sz es :: own, (d, AV.is v') :: env⟩ K) : ASeq P G n ops (o :: rest) ⟨own, env⟩ K :=
  opS_run hg fun w0 R0 R a w ⟨h1, h2, h3, h4⟩ => by
    obtain ⟨k1, k2⟩ := evp_use (o := o) (fun t _ y hy => h2 t y hy) hp fun p hpm => by simp [ho, Op.operands]; exact ⟨p.1, by simpa using hpm⟩
    have hone : ∀ i, i < len * sz → (z.cells[i % z.cells.size]!).oneCell' = true := fun i hi => by
      have hpos : 0 < z.cells.size := by
        rw [hzs]
        rcases Nat.eq_zero_or_pos sz with h0 | h0
        · subst h0; simp at hi
        · exact h0
      rw [getElem!_pos z.cells _ (Nat.mod_lt _ hpos)]
      exact List.all_eq_true.1 h1' _ (by simp)
    obtain ⟨cells', f2, f3⟩ := fill_den (R := R) (place := fun i => some (i * sz, sz)) _ asl ((Array.range (len * sz)).map fun i => z.cells[i % z.cells.size]!) _ cs ⟨by simp, fun i v y hv hy => by
      rw [Array.toList_map, List.getElem?_map, Array.toList_range] at hv
      rw [List.getElem?_map] at hy
      by_cases hi : i < len * sz
      · rw [List.getElem?_range hi] at hv hy
        simp only [Option.map_some, Option.some.injEq] at hv hy
        rw [← hv, ← hy]
        exact ⟨zeroA_den R _, hone i hi⟩
      · rw [List.getElem?_eq_none (by simp; omega)] at hv; cases hv⟩ k1 k2 hc
    have hlen := Nat.le_of_ble_eq_true hl
    have h5 : cells'.toList.length = len * sz := by
      rw [f3.1, afill_len asl _ cs hc]; simp
    have hch := chunks_flat sz len cs (by rw [← f3.1]; exact h5)
    have h6 : (ps.map fun (i, x) => (i, a.eval x)).toList = ps.toList.map fun p => (p.1, a.eval p.2) := by simp
    have hrun : (execOp a.eval o).run P w = .ok (.value (.slice (some ⟨w.heap.size, 0, none⟩) len len)) (w.alloc (.cells cells' e)) := by
      have hcap : ¬ (len * sz > 2 ^ 24) := by omega
      by_cases h0 : len * sz = 0
      · have h7 : (Array.range (len * sz)).map (fun x => (#[] : Array Value)[x % (#[] : Array Value).size]!) = (Array.range (len * sz)).map fun i => z.cells[i % z.cells.size]! := by rw [h0]; simp
        rw [← h7] at f2
        simp only [execOp, ho, Instr.buildSlice, run_underlying ht, hsz, hcap, if_false, Sem.run_bind, Sem.run_pure, Result.andThen_ok, Sem.run_ite, if_pos h0, h6, f2, newRow, run_newObj, World.alloc_eq]
      · simp only [execOp, ho, Instr.buildSlice, run_underlying ht, hsz, hcap, if_false, Sem.run_bind, Sem.run_pure, Result.andThen_ok, Sem.run_ite, if_neg h0, hz, h6, f2, newRow, run_newObj, World.alloc_eq]
    unfold Oper.wp
    rw [hrun, Oper.upon_value, hd]
    have hlz : es.length = len := by rw [← hes, chunks_len]
    refine ⟨_, R, k _, RSub.refl _, core_arr_new (sz := sz) (m := len) (cap := len) (es := es) h1 hlz (Nat.le_refl _) (by have := Nat.le_of_ble_eq_true hl2; unfold maxLen; omega) (by rw [← Array.length_toList]; exact h5) (by rw [← hes]; exact hch.2) ?_, env_put h2 (RSub.refl _) (by rw [h3]; exact Nat.blt_eq.mp hn) rfl, by rw [size_put]; exact h3, by rw [defers_put]; exact h4⟩
    rw [List.take_of_length_le (by rw [h5]; exact Nat.le_refl _), ← hes, hch.1]
    exact f3
end
end Go.AV

set_option linter.unusedVariables false
set_option linter.unusedSimpArgs false
namespace Go.AV
open Go.RowKit (Below)
section
variable {P : Program} {G : Nat → Prop} {n : Nat}
/-- An operation with an effect on what is owned. -/
def OpE (P : Program) (G : Nat → Prop) (n : Nat) (W : List Own) (ops : Array Oper) (o : Oper) (E : EnvF) {α : Type} (ok : α → Prop) (W' : α → List Own) (V : α → AV) : Prop :=
  ∀ w0 R0 R a w, Core G w0 R0 W R w → a.tmps.size = n → (∀ t ∈ o.looksAt ops, ∀ y, E t = some y → y.den R (a.tmps.getD t undef)) →
    o.wp P a w (fun a' w' => ∃ x v R', ok x ∧ a' = a.put o.dst v ∧ Core G w0 R0 (W' x) R' w' ∧ RSub R R' ∧ (V x).den R' v) (fun _ _ _ => False)
theorem OpE.congr {W : List Own} {ops : Array Oper} {o : Oper} {E E' : EnvF} {α : Type} {ok : α → Prop} {W' : α → List Own} {V : α → AV} (h : OpE P G n W ops o E ok W' V) (he : ∀ t ∈ o.looksAt ops, E' t = E t) : OpE P G n W ops o E' ok W' V :=
  fun w0 R0 R a w h1 h2 h3 => h w0 R0 R a w h1 h2 fun t ht y hy => h3 t ht y (by rw [he t ht]; exact hy)
def InvX (base W : List Own) : Prop := ∃ ext, W = base ++ ext
theorem invx_self {own : List Own} : InvX own own := ⟨[], (List.append_nil _).symm⟩
theorem invx_all {own : List Own} : InvX [] own := ⟨own, rfl⟩
theorem invx_take {own : List Own} (k : Nat) : InvX (own.take k) own := ⟨own.drop k, (List.take_append_drop k own).symm⟩
theorem invx_mk {base W ext : List Own} (h : W = base ++ ext) : InvX base W := ⟨ext, h⟩
theorem one_isv {u : Value} (h : u.oneCell' = true) (R : RHeap) (v : Value) (hv : (AV.is u).den R v) : v.oneCell' = true := by cases (show v = u from hv); exact h
theorem own_one {R : RHeap} {w : World} {v : Value} {e : TypeId} {sz : Nat} {es : List (List AV)} (h : Own.ok R w (.arr v e sz es)) : v.oneCell' = true := by
  obtain ⟨_, _, xs, hown, _⟩ := h
  obtain ⟨oa, c, rfl, _⟩ := own_form hown
  rfl
theorem sq_fact {own : List Own} {ops : Array Oper} {o : Oper} {rs : List Oper} {K : AState → Prop} {env : List (Nat × AV)} {v : Value} {e : TypeId} {sz : Nat} {es : List (List AV)} (i : Nat) (hi : own[i]? = some (.arr v e sz es)) (k : v.oneCell' = true → ASeq P G n ops (o :: rs) ⟨own, env⟩ K) : ASeq P G n ops (o :: rs) ⟨own, env⟩ K := fun w0 R0 R a w hs =>
  k (own_one (hs.1.owned _ (List.mem_of_getElem? hi))) w0 R0 R a w hs
theorem sq_own {own own' : List Own} {ops : Array Oper} {o : Oper} {rs : List Oper} {K : AState → Prop} {env : List (Nat × AV)} (h : own = own') (k : ASeq P G n ops (o :: rs) ⟨own', env⟩ K) : ASeq P G n ops (o :: rs) ⟨own, env⟩ K := by subst h; exact k
theorem awp_own {own own' : List Own} {c : Code} {Q : Exit → AState → Prop} {env : List (Nat × AV)} (h : own = own') (k : AWP P G n c Q ⟨own', env⟩) : AWP P G n c Q ⟨own, env⟩ := by subst h; exact k
theorem w_fldBn {own : List Own} {o : Oper} {E : EnvF} {t : TypeId} {p : Operand} {b off : Nat} {fs : Array Field} {fd : Field} {k j : Nat} (m : Nat) (ho : o.op = .fieldAddr t p k) (ht : P.underlying t = some (.struct fs)) (hk : fs[k]? = some fd) (hs : ∀ w, (sizeOf fd.type).run P w = .ok (j + 1) w)
    (hp : Ev E p (AV.ptr b off)) (hm : off + fd.offset = m) : OpW P G n own o E (AV.ptr b m) := by subst hm; exact w_fldB ho ht hk hs hp
theorem gspec_sel {f : FuncId} {xs : List AV} {sel sel' : List Own} {α : Type} {ok : α → Prop} {O : α → List Own} {V : α → AV} (h : sel' = sel) (hs : GSpec P f xs sel ok O V) : GSpec P f xs sel' ok O V := by subst h; exact hs
theorem gspec_arg {f : FuncId} {xs xs' : List AV} {sel : List Own} {α : Type} {ok : α → Prop} {O : α → List Own} {V : α → AV} (h : xs' = xs) (hs : GSpec P f xs sel ok O V) : GSpec P f xs' sel ok O V := by subst h; exact hs
theorem fspec_arg {f : FuncId} {xs xs' : List AV} {y : AV} (h : xs' = xs) (hs : FSpec P f xs y) : FSpec P f xs' y := by subst h; exact hs
theorem own2 {a b a' b' : List (List AV)} {v w : Value} {s t : TypeId} {m k : Nat} (h : a = a') (k' : b = b') : [Own.arr v s m a, Own.arr w t k b] = [Own.arr v s m a', Own.arr w t k b'] := by subst h; subst k'; rfl
theorem own1 {a a' : List (List AV)} {v : Value} {s : TypeId} {m : Nat} (h : a = a') : [Own.arr v s m a] = [Own.arr v s m a'] := by subst h; rfl
def qB (P : Program) (G : Nat → Prop) (n : Nat) (Inv : List Own → Prop) (ops : Array Oper) (i : Nat) (K : EnvF → List Own → Prop) (E : EnvF) (W : List Own) : Prop :=
  match ops[i]? with
  | none => K E W
  | some o => (∃ x, OpA P G n W ops o E x ∧ K (updF o.dst x E) W) ∨
      (o.guard = none ∧ ∃ (α : Type) (ok : α → Prop) (W' : α → List Own) (V : α → AV), OpE P G n W ops o E ok W' V ∧ (∀ a, ok a → Inv (W' a)) ∧ ∀ a, ok a → K (updF o.dst (V a) E) (W' a))
theorem qB_mono {Inv : List Own → Prop} {ops : Array Oper} {i : Nat} {E : EnvF} {W : List Own} {K K' : EnvF → List Own → Prop} (hW : Inv W) (h : ∀ E W, Inv W → K E W → K' E W) (hh : qB P G n Inv ops i K E W) : qB P G n Inv ops i K' E W := by
  unfold qB at *
  split
  · exact h _ _ hW (by simpa [*] using hh)
  · rename_i o ho
    simp only [ho] at hh
    rcases hh with ⟨x, h1, h2⟩ | ⟨hg, α, ok, W', V, h1, h2, h3⟩
    · exact .inl ⟨x, h1, h _ _ hW h2⟩
    · exact .inr ⟨hg, α, ok, W', V, h1, h2, fun a ha => h _ _ (h2 a ha) (h3 a ha)⟩
def wpAnyB (P : Program) (G : Nat → Prop) (n : Nat) (Inv : List Own → Prop) (md : Region.Mode) (ops : Array Oper) (m : Nat) (L : Array Bool → EnvF → List Own → Prop) : Nat → Array Bool → EnvF → List Own → Prop
  | 0, listed, E, W => L listed E W
  | f + 1, listed, E, W => Region.ready md ops listed ≠ [] ∧ ∀ i ∈ Region.ready md ops listed, i < m ∧ qB P G n Inv ops i (wpAnyB P G n Inv md ops m L f (listed.setIfInBounds i true)) E W
theorem wpAny_of_B {Inv : List Own → Prop} {md : Region.Mode} {ops : Array Oper} {m g : Nat} {L : Array Bool → EnvF → List Own → Prop} (hdst : ∀ (i : Nat) (o : Oper), ops[i]? = some o → ∀ d, o.dst = some d → d < n) {w0 : World} {R0 R00 : RHeap} {Q' : Exit → Act → World → Prop}
    (hL : ∀ listed E W R a w, RSub R00 R → Core G w0 R0 W R w → EnvOk E R a → a.tmps.size = n → a.defers = [] → L listed E W → wpAny P md ops Q' g listed a w) : ∀ (f : Nat) (listed : Array Bool) (E : EnvF) (W : List Own) (R : RHeap) (a : Act) (w : World),
    RSub R00 R → Core G w0 R0 W R w → EnvOk E R a → a.tmps.size = n → a.defers = [] → wpAnyB P G n Inv md ops m L f listed E W → wpAny P md ops Q' (f + g) listed a w
  | 0, listed, E, W, R, a, w, h1, h2, h3, h4, h5, h => by rw [Nat.zero_add]; exact hL _ _ _ R a w h1 h2 h3 h4 h5 h
  | f + 1, listed, E, W, R, a, w, h1, h2, h3, h4, h5, h => by
    rw [show f + 1 + g = (f + g) + 1 by omega]
    refine ⟨fun h0 => absurd h0 h.1, fun i hi => ?_⟩
    have hq := (h.2 i hi).2
    unfold qB at hq
    unfold wpOp
    cases ho : ops[i]? with
    | none =>
      simp only [ho] at hq
      exact wpAny_of_B hdst hL f _ E W R a w h1 h2 h3 h4 h5 hq
    | some o =>
      simp only [ho] at hq
      have hdo : ∀ k, o.dst = some k → k < a.tmps.size := fun k e => by rw [h4]; exact hdst i o ho k e
      rcases hq with ⟨x, hx, hk⟩ | ⟨hg, α, ok, W', V, hx, _, hk⟩
      · obtain ⟨k1, k2⟩ := hx w0 R0 R a w h2 h4 fun t _ y hy => h3 t y hy
        by_cases hw : Region.wanted o (yielded ops a.tmps) = true
        · simp only [hw, if_true]
          refine .inl (Oper.wp_mono2 (fun a' w' ⟨v, R', e1, e2, e3, e4⟩ => ?_) (fun _ _ _ h => h.elim) (k1 hw))
          subst e1
          exact wpAny_of_B hdst hL f _ (updF o.dst x E) W R' _ w' (h1.trans e3) e2 (envOk_put h3 e3 hdo e4) (by rw [size_put]; exact h4) (by rw [defers_put]; exact h5) hk
        · have hwf : Region.wanted o (yielded ops a.tmps) = false := by simpa using hw
          simp only [hwf, Bool.false_eq_true, if_false]
          exact wpAny_of_B hdst hL f _ (updF o.dst x E) W R _ w h1 h2 (envOk_put h3 (RSub.refl _) hdo (k2 hwf)) (by rw [size_put]; exact h4) (by rw [defers_put]; exact h5) hk
      · have hw : Region.wanted o (yielded ops a.tmps) = true := wanted_none hg
        simp only [hw, if_true]
        refine .inl (Oper.wp_mono2 (fun a' w' ⟨x, v, R', e0, e1, e2, e3, e4⟩ => ?_) (fun _ _ _ h => h.elim) (hx w0 R0 R a w h2 h4 fun t _ y hy => h3 t y hy))
        subst e1
        exact wpAny_of_B hdst hL f _ (updF o.dst (V x) E) (W' x) R' _ w' (h1.trans e3) e2 (envOk_put h3 e3 hdo e4) (by rw [size_put]; exact h4) (by rw [defers_put]; exact h5) (hk x e0)
theorem qB_put {Inv : List Own → Prop} {ops : Array Oper} {j : Nat} {oi oj : Oper} {x : AV} {W : List Own} (hj : ops[j]? = some oj) (hap : oi.apart ops oj = true) {K : EnvF → List Own → Prop} {E : EnvF} (hW : Inv W)
    (hy : ∀ W, Inv W → OpA P G n W ops oi E x) (h : qB P G n Inv ops j K (updF oi.dst x E) W) :
    qB P G n Inv ops j (fun E' W' => (∀ W, Inv W → OpA P G n W ops oi E' x) ∧ K (updF oi.dst x E') W') E W := by
  obtain ⟨h1, h2, h3⟩ := Oper.apart_spec hap
  unfold qB at *
  simp only [hj] at *
  rcases h with ⟨y, hu, hn⟩ | ⟨hg, α, ok, W', V, hu, hi, hn⟩
  · exact .inl ⟨y, hu.unupd h1, fun W hW => (hy W hW).upd h3, by rw [updF_comm h2]; exact hn⟩
  · exact .inr ⟨hg, α, ok, W', V, hu.congr fun t ht => (updF_other fun e => h1 t e ht).symm, hi, fun a ha => ⟨fun W hW => (hy W hW).upd h3, by rw [updF_comm h2]; exact hn a ha⟩⟩
theorem wpAnyB_first {Inv : List Own → Prop} {md : Region.Mode} {ops : Array Oper} {m i : Nat} {oi : Oper} {x : AV} {L : Array Bool → EnvF → List Own → Prop} (hi : ops[i]? = some oi)
    (hs : Region.sinkB md ops m = true) (hc : Region.chainB md ops m = true) (hn : m < ops.size) (hin : i < m)
    (hdone : ∀ listed E W, L listed E W → ∀ j ∈ Region.ready md ops listed, m ≤ j) :
    ∀ (f : Nat) (listed : Array Bool) (E : EnvF) (W : List Own), HeadInv md ops m listed → Inv W →
      (∀ j oj, ops[j]? = some oj → j ≠ i → listed.getD j true = false → (∀ e ∈ oj.after, Region.binds md e = true → e.on ≠ i) → oi.apart ops oj = true) →
      i ∈ Region.ready md ops listed → (∀ W, Inv W → OpA P G n W ops oi E x) →
      wpAnyB P G n Inv md ops m L f (listed.setIfInBounds i true) (updF oi.dst x E) W → wpAnyB P G n Inv md ops m L (f + 1) listed E W := by
  have put : ∀ {K : EnvF → List Own → Prop} {E : EnvF} {W : List Own}, Inv W → (∀ W, Inv W → OpA P G n W ops oi E x) → K (updF oi.dst x E) W → qB P G n Inv ops i K E W := fun hW hy hK => by
    unfold qB
    simp only [hi]
    exact .inl ⟨x, hy _ hW, hK⟩
  intro f
  induction f with
  | zero =>
    intro listed E W inv hW _ hr hy H
    have hun := (mem_ready.1 hr).1
    refine ⟨fun h => (by rw [h] at hr; cases hr), fun j hj => ?_⟩
    have hjn : j < m := by
      rcases Nat.lt_or_ge j m with h | h
      · exact h
      · exact absurd hj (tail_waits hs hc hn inv _ i rfl hin hun j h)
    refine ⟨hjn, ?_⟩
    by_cases hji : j = i
    · subst hji; exact put hW hy H
    · have := hdone _ _ _ H j (ready_mono hj hji)
      omega
  | succ f ih =>
    intro listed E W inv hW hfree hr hy H
    have hun := (mem_ready.1 hr).1
    refine ⟨fun h => (by rw [h] at hr; cases hr), fun j hj => ?_⟩
    have hjn : j < m := by
      rcases Nat.lt_or_ge j m with h | h
      · exact h
      · exact absurd hj (tail_waits hs hc hn inv _ i rfl hin hun j h)
    refine ⟨hjn, ?_⟩
    by_cases hji : j = i
    · subst hji; exact put hW hy H
    · have h1 := (H.2 j (ready_mono hj hji)).2
      obtain ⟨hjun, oj, hoj, hall⟩ := mem_ready.1 hj
      have hnot : ∀ e ∈ oj.after, Region.binds md e = true → e.on ≠ i := fun e he hb heq => by
        have h1 := hall e he hb
        rw [heq, getD_both hun] at h1
        cases h1
      have h2 := qB_put hoj (hfree j oj hoj hji hjun hnot) hW hy h1
      have hfree' : ∀ k ok, ops[k]? = some ok → k ≠ i → (listed.setIfInBounds j true).getD k true = false →
          (∀ e ∈ ok.after, Region.binds md e = true → e.on ≠ i) → oi.apart ops ok = true := fun k ok hk hki hun hno => by
        refine hfree k ok hk hki ?_ hno
        by_cases hjk : j = k
        · subst hjk; exact hjun
        · rw [getD_set_ne true hjk] at hun; exact hun
      refine qB_mono hW (fun E' W' hW' h3 => ih (listed.setIfInBounds j true) E' W' (inv.set hj hjn) hW' hfree' (ready_mono hr (Ne.symm hji)) h3.1 ?_) h2
      rw [Array.setIfInBounds_comm _ _ hji]
      exact h3.2
/-- The order in which the region is walked: what reads, and (true) the calls with effects. -/
def ordB (md : Region.Mode) (ops : Array Oper) (g m : Nat) : List (Nat × Bool) → Array Bool → Bool
  | [], listed => Region.seqB md ops g m listed
  | (i, false) :: r, listed => (Region.ready md ops listed).contains i && Region.free md ops listed i && Nat.blt i m && ordB md ops g m r (listed.setIfInBounds i true)
  | (i, true) :: r, listed => decide (Region.ready md ops listed = [i]) && Nat.blt i m && ordB md ops g m r (listed.setIfInBounds i true)
def mixB (md : Region.Mode) (ops : Array Oper) (ord : List (Nat × Bool)) : Bool :=
  decide (ord.length < ops.size) && Region.sinkB md ops ord.length && Region.chainB md ops ord.length && ordB md ops (ops.size - ord.length) ord.length ord (Array.replicate ops.size false)
def BCh (P : Program) (G : Nat → Prop) (n : Nat) (Inv : List Own → Prop) (ops : Array Oper) : List (Nat × Bool) → List (Nat × AV) → List Own → (List (Nat × AV) → List Own → Prop) → Prop
  | [], env, W, K => K env W
  | (i, false) :: r, env, W, K => ∃ o, ops[i]? = some o ∧ ∃ x, (∀ W', Inv W' → OpA P G n W' ops o (getv · env) x) ∧ BCh P G n Inv ops r (putv o.dst x env) W K
  | (i, true) :: r, env, W, K => ∃ o, ops[i]? = some o ∧ o.guard = none ∧ ∃ (α : Type) (ok : α → Prop) (W' : α → List Own) (V : α → AV), OpE P G n W ops o (getv · env) ok W' V ∧ (∀ a, ok a → Inv (W' a)) ∧ ∀ a, ok a → BCh P G n Inv ops r (putv o.dst (V a) env) (W' a) K
theorem wpAnyB_ord {Inv : List Own → Prop} {md : Region.Mode} {ops : Array Oper} {m g : Nat} {K : List (Nat × AV) → List Own → Prop} (hs : Region.sinkB md ops m = true) (hc : Region.chainB md ops m = true) (hn : m < ops.size) :
    ∀ (l : List (Nat × Bool)) (listed : Array Bool) (env : List (Nat × AV)) (W : List Own), HeadInv md ops m listed → Inv W →
    ordB md ops g m l listed = true → BCh P G n Inv ops l env W K →
    wpAnyB P G n Inv md ops m (fun listed' E W => Region.seqB md ops g m listed' = true ∧ ∃ env', E = (getv · env') ∧ K env' W) l.length listed (getv · env) W
  | [], listed, env, W, _, _, hB, h => ⟨hB, env, rfl, h⟩
  | (i, false) :: l, listed, env, W, inv, hW, hB, h => by
    simp only [ordB, Bool.and_eq_true] at hB
    obtain ⟨⟨⟨hr, hf⟩, hlt⟩, hB'⟩ := hB
    have hkn : i < m := Nat.blt_eq.mp hlt
    have hr' : i ∈ Region.ready md ops listed := by simpa using hr
    obtain ⟨o, ho, x, hx, hK⟩ := h
    refine wpAnyB_first ho hs hc hn hkn (fun listed' E W hL => seqB_ready hL.1) l.length listed _ W inv hW (Region.free_spec ho hf) hr' hx ?_
    rw [← getv_putv]
    exact wpAnyB_ord hs hc hn l _ _ W (inv.set hr' hkn) hW hB' hK
  | (i, true) :: l, listed, env, W, inv, hW, hB, h => by
    simp only [ordB, Bool.and_eq_true, decide_eq_true_eq] at hB
    obtain ⟨⟨hr, hlt⟩, hB'⟩ := hB
    have hkn : i < m := Nat.blt_eq.mp hlt
    have hr' : i ∈ Region.ready md ops listed := by rw [hr]; simp
    obtain ⟨o, ho, hg, α, ok, W', V, h1, h2, h3⟩ := h
    refine ⟨fun h0 => (by rw [h0] at hr'; cases hr'), fun j hj => ?_⟩
    rw [hr] at hj
    have : j = i := by simpa using hj
    subst this
    refine ⟨hkn, ?_⟩
    unfold qB
    simp only [ho]
    refine .inr ⟨hg, α, ok, W', V, h1, h2, fun a ha => ?_⟩
    rw [← getv_putv]
    exact wpAnyB_ord hs hc hn l _ _ (W' a) (inv.set hr' hkn) (h2 a ha) hB' (h3 a ha)
/-- A region that draws its order, with calls that have effects; then what follows one behind the other. -/
theorem awp_region_mix {id : Nat} {l : List Oper} {Q : Exit → AState → Prop} {env : List (Nat × AV)} {own : List Own} (base : List Own) (ord : List (Nat × Bool)) (hm : P.follows .mixedOrders = true) (hB : mixB .any l.toArray ord = true) (hd : dstOk n l = true) (hb : InvX base own)
    (h : BCh P G n (InvX base) l.toArray ord env own (fun env' W => ASeq P G n l.toArray (l.drop ord.length) ⟨W, env'⟩ (Q .normal))) : AWP P G n (.region id l.toArray true) Q ⟨own, env⟩ := fun w0 R0 R a w ⟨h1, h2, h3, h4⟩ => by
  simp only [mixB, Bool.and_eq_true, decide_eq_true_eq] at hB
  obtain ⟨⟨⟨hn, hs⟩, hc⟩, hlex⟩ := hB
  have hn' : ord.length < l.length := by simpa using hn
  have hdl : (l.drop ord.length).length = l.toArray.size - ord.length := by simp
  have inv0 : HeadInv .any l.toArray ord.length (Array.replicate l.toArray.size false) :=
    ⟨by simp, fun j oj _ hl => (by rw [getD_replicate_false] at hl; cases hl), fun t _ ht => getD_in (by simpa using ht) (getD_replicate_false _ _)⟩
  have H := wpAnyB_ord (g := l.toArray.size - ord.length) hs hc hn ord _ env own inv0 hb hlex h
  refine wp_region_any hm ?_
  have := wpAny_of_B (w0 := w0) (R0 := R0) (R00 := R) (g := l.toArray.size - ord.length) (Q' := fun e a' w' => ∃ s' R', Q e s' ∧ RSub R R' ∧ St G n w0 R0 s' R' a' w') (fun i o ho d e => dstOk_spec hd i o (by simpa using ho) d e) (fun listed E W R' a' w' g1 g2 g3 g4 g5 hL => by
    obtain ⟨hL1, env', rfl, hL2⟩ := hL
    have := wpAny_of_seq (P := P) (md := .any) (Q' := fun e a' w' => ∃ s' R', Q e s' ∧ RSub R R' ∧ St G n w0 R0 s' R' a' w') (l.drop ord.length) ord.length listed a' w' (fun j => by simp [List.getElem?_drop]) (by rw [hdl]; exact hL1)
      (wpList_of_seq (R00 := R) (K := Q .normal) (fun s' R' a w q r1 r2 => ⟨s', R', q, r1, r2⟩) _ (⟨W, env'⟩ : AState) R' a' w' g1 ⟨g2, g3, g4, g5⟩ hL2)
    rwa [hdl] at this) _ _ _ own R a _ (RSub.refl _) (core_drew h1) h2 h3 h4 H
  rw [show ord.length + (l.toArray.size - ord.length) = l.toArray.size by omega] at this
  exact this
section
variable {ops : Array Oper} {i : Nat} {o : Oper} {r : List (Nat × Bool)} {env : List (Nat × AV)} {W : List Own} {base : List Own} {K : List (Nat × AV) → List Own → Prop} {d : Nat} {x : AV}
theorem bc_nil {Inv : List Own → Prop} (h : K env W) : BCh P G n Inv ops [] env W K := h
theorem bc_plain (ho : ops[i]? = some o) (hg : o.guard = none) (hd : o.dst = some d) (h : ∀ ext, OpW P G n (base ++ ext) o (getv · env) x) (k : BCh P G n (InvX base) ops r ((d, x) :: env) W K) : BCh P G n (InvX base) ops ((i, false) :: r) env W K :=
  ⟨o, ho, x, fun W' ⟨ext, e⟩ => by subst e; exact opA_plain hg (h ext), by rw [hd]; exact k⟩
theorem bc_grd {c : Bool} (ho : ops[i]? = some o) (hd : o.dst = some d) (hg : GuardIs ops o (getv · env) c) (h : c = true → ∀ ext, OpW P G n (base ++ ext) o (getv · env) x) (k : BCh P G n (InvX base) ops r ((d, AV.whn c x) :: env) W K) : BCh P G n (InvX base) ops ((i, false) :: r) env W K :=
  ⟨o, ho, _, fun W' ⟨ext, e⟩ => by subst e; exact opA_grd hg fun hc => h hc ext, by rw [hd]; exact k⟩
theorem bc_eff {Inv : List Own → Prop} {α : Type} {ok : α → Prop} {W' : α → List Own} {V : α → AV} (ho : ops[i]? = some o) (hg : o.guard = none) (hd : o.dst = some d) (h : OpE P G n W ops o (getv · env) ok W' V) (hi : ∀ a, ok a → Inv (W' a)) (k : ∀ a, ok a → BCh P G n Inv ops r ((d, V a) :: env) (W' a) K) : BCh P G n Inv ops ((i, true) :: r) env W K :=
  ⟨o, ho, hg, α, ok, W', V, h, hi, fun a ha => by rw [hd]; exact k a ha⟩
section
variable {α : Type} {ok : α → Prop} {O : α → List Own} {V : α → AV} {E : EnvF} {f : FuncId} {args : Array Operand} {tys : Array TypeId} {ps : List Operand} {xs : List AV} {sel rest : List Own}
theorem ev_lookA {p : Operand} {R : RHeap} {a : Act} (hev : Ev E p x) (hm : p ∈ o.op.operands.toList) (he : ∀ t ∈ o.looksAt ops, ∀ y, E t = some y → y.den R (a.tmps.getD t undef)) : x.den R (a.eval p) :=
  ev_use hev hm fun t ht => he t (looks_tmps ht)
/-- A call with a contract over own memory. -/
theorem opE_call (is : List Nat) (ho : o.op = .call { callee := .value (.func f), args := args, argTypes := tys })
    (hc : ∀ (vs : Array Value) (w : World), (callFunc f vs).run P w = .ok (.enter f vs) w) (hps : args.toList = ps) (hs : GSpec P f xs sel ok O V) (he : EvL E ps xs) (hp : pick W is = (sel, rest)) :
    OpE P G n W ops o E ok (fun a => rest ++ O a) V := fun w0 R0 R a w h1 h3 h2 => by
  have hcore := core_pick h1 hp
  have hden := evl_use (o := o) (fun t ht => h2 t (looks_tmps ht)) he fun p hp => by simp [ho, Op.operands, Call.operands]; right; rw [← hps] at hp; exact Array.mem_toList_iff.1 hp
  have hrun : (execOp a.eval o).run P w = .ok (.enter f (ps.map a.eval).toArray) w := by
    have hargs : args.map a.eval = (ps.map a.eval).toArray := by rw [← hps]; cases args; simp
    simp only [execOp, ho, resolve, hargs, show a.eval (.func f) = .func (.func f) #[] #[] from rfl]
    simp [Deferred.ofValue, invoke, hc]
  unfold Oper.wp
  rw [hrun, Oper.upon_enter]
  refine (hs R w _ hcore.rle hden (fun q hq => hcore.owned q (List.mem_append_left _ hq)) (core_left hcore).sep).mono fun e w' ⟨x, v, R', e0, e1, e2, e3⟩ => ?_
  subst e1
  exact ⟨x, v, R', e0, rfl, core_perm (core_after hcore e3) List.perm_append_comm, rsub_of hcore.rle e3.rold, e2⟩
/-- The same, the rest lent. -/
theorem opE_callB (is : List Nat) (ho : o.op = .call { callee := .value (.func f), args := args, argTypes := tys })
    (hc : ∀ (vs : Array Value) (w : World), (callFunc f vs).run P w = .ok (.enter f vs) w) (hps : args.toList = ps) (hs : GSpec P f xs sel ok O V) (hp : pick W is = (sel, rest)) (he : EvLB rest E ps xs) (hso : ∀ q ∈ sel, FlatO q) (hfV : ∀ a, Flat (V a)) (hfO : ∀ a, ∀ q ∈ O a, FlatO q) :
    OpE P G n W ops o E ok (fun a => rest ++ O a) V := fun w0 R0 R a w h1 h3 h2 => by
  have hcore := core_pick h1 hp
  have hcr := core_right hcore
  have hden := evlb_use (o := o) hcr (fun t ht => h2 t (looks_tmps ht)) he fun p hp => by simp [ho, Op.operands, Call.operands]; right; rw [← hps] at hp; exact Array.mem_toList_iff.1 hp
  have hrun : (execOp a.eval o).run P w = .ok (.enter f (ps.map a.eval).toArray) w := by
    have hargs : args.map a.eval = (ps.map a.eval).toArray := by rw [← hps]; cases args; simp
    simp only [execOp, ho, resolve, hargs, show a.eval (.func f) = .func (.func f) #[] #[] from rfl]
    simp [Deferred.ofValue, invoke, hc]
  unfold Oper.wp
  rw [hrun, Oper.upon_enter]
  have hlnone : ∀ q ∈ sel, ∀ b, Own.blk q = some b → lend rest w R b = none := fun q hq b hb => by
    unfold lend
    cases hob : ownB rest b with
    | true =>
      obtain ⟨x, hx, hxb⟩ := ownB_true hob
      exact absurd hxb (sep_apart hcore.sep hq hx hb)
    | false => exact (Own.ok_blk (hcore.owned q (List.mem_append_left _ hq)) hb).1
  refine (hs (lend rest w R) w _ (lend_le hcr) hden (fun q hq => ok_flat (hcore.owned q (List.mem_append_left _ hq)) (hso q hq) (hlnone q hq)) (core_left hcore).sep).mono fun e w' ⟨x, v, R', e0, e1, e2, e3⟩ => ?_
  subst e1
  have hR2 : ∀ b, b < w.heap.size → (fun b => bif ownB rest b then none else R' b) b = R b := fun b hb => by
    show (bif ownB rest b then none else R' b) = R b
    cases hob : ownB rest b with
    | true =>
      obtain ⟨y, hy, hyb⟩ := ownB_true hob
      rw [cond_true]; exact (Own.ok_blk (hcr.owned y hy) hyb).1.symm
    | false =>
      rw [cond_false, e3.rold b hb]
      unfold lend
      rw [hob, cond_false]
  have hnew : Core (blksOf sel) w R (O x) (fun b => bif ownB rest b then none else R' b) w' := by
    refine ⟨e3.os, e3.tape, e3.output, e3.size, e3.block, fun b y hy => ?_, hR2, fun q hq => ok_flat (e3.owned q hq) (hfO x q hq) fun b hb => ?_, e3.fresh, e3.sep⟩
    · cases hob : ownB rest b with
      | true => simp [hob] at hy
      | false => exact e3.rle b y (by simpa [hob] using hy)
    · show (bif ownB rest b then none else R' b) = none
      cases hob : ownB rest b with
      | true => rfl
      | false => rw [cond_false]; exact (Own.ok_blk (e3.owned q hq) hb).1
  exact ⟨x, v, _, e0, rfl, core_perm (core_after hcore hnew) List.perm_append_comm, rsub_of hcore.rle hnew.rold, hfV x _ _ v e2⟩
end
end
end
end Go.AV

set_option linter.unusedVariables false
set_option linter.unusedSimpArgs false
namespace Go.AV
open Go.RowKit (Below)
section
variable {P : Program} {G : Nat → Prop} {n : Nat} {own : List Own} {o : Oper} {E : EnvF}
theorem bytes_flat (l : List UInt8) : (l.map fun c => [AV.byte c]).flatten = l.map AV.byte := by
  induction l with
  | nil => rfl
  | cons c l ih => simp only [List.map_cons, List.flatten_cons, ih]; rfl
theorem w_convBS {src dst e : TypeId} {p : Operand} {l : List UInt8} (ho : o.op = .convert src dst p) (hs : P.underlying src = some (.slice e)) (he : P.underlying e = some (.int .u8)) (hd : P.underlying dst = some .string) (hp : Ev E p (AV.list 1 (l.map fun c => [AV.byte c]))) : OpW P G n own o E (AV.str l) := opW_val fun R a w hr hen => by
  obtain ⟨oa, c, h1, _, _, _, hc⟩ := ev_use hp (by simp [ho, Op.operands]) hen
  rw [List.length_map] at h1
  cases l with
  | nil =>
    refine ⟨.string ⟨#[]⟩, ?_, rfl⟩
    cases oa with
    | none => simp only [execOp, ho, h1, run_convert_bytes_nil w src e hs he _ _ dst hd, Sem.run_bind, Sem.run_pure, Result.andThen_ok]; rfl
    | some ad => simp only [execOp, ho, h1, run_convert_bytes_back w src dst e ad c [] hs he hd (fun j hj => by simp at hj), Sem.run_bind, Sem.run_pure, Result.andThen_ok]
  | cons b l =>
    obtain ⟨ad, rfl, hca⟩ := hc (by simp)
    rw [bytes_flat] at hca
    have := run_convert_bytes_back (P := P) w src dst e ad c (b :: l) hs he hd (fun j hj => by
      obtain ⟨u, hu, hx, _⟩ := hca j (AV.byte (b :: l)[j]) (by rw [List.getElem?_map, List.getElem?_eq_getElem hj]; rfl)
      cases (show u = _ from hx)
      exact rcell_cell hr hu)
    exact ⟨_, by simp only [execOp, ho, h1, this, Sem.run_bind, Sem.run_pure, Result.andThen_ok], rfl⟩
theorem w_convBA {src dst e t : TypeId} {p : Operand} {v : Value} {l : List UInt8} (i : Nat) (ho : o.op = .convert src dst p) (hs : P.underlying src = some (.slice e)) (he : P.underlying e = some (.int .u8)) (hd : P.underlying dst = some .string) (hp : Ev E p (AV.is v)) (hi : own[i]? = some (.arr v t 1 (l.map fun c => [AV.byte c]))) : OpW P G n own o E (AV.str l) := opW_core fun w0 R0 R a w hcr hen => by
  have h1 : a.eval p = v := ev_use hp (by simp [ho, Op.operands]) hen
  have hok := hcr.owned _ (List.mem_of_getElem? hi)
  obtain ⟨_, _, xs, hown, _⟩ := hok
  obtain ⟨oa, c, rfl, _⟩ := own_form hown
  rw [List.length_map] at *
  cases l with
  | nil =>
    refine ⟨.string ⟨#[]⟩, ?_, rfl⟩
    cases oa with
    | none => simp only [execOp, ho, h1, run_convert_bytes_nil w src e hs he _ _ dst hd, Sem.run_bind, Sem.run_pure, Result.andThen_ok]; rfl
    | some ad => simp only [execOp, ho, h1, run_convert_bytes_back w src dst e ad c [] hs he hd (fun j hj => by simp at hj), Sem.run_bind, Sem.run_pure, Result.andThen_ok]
  | cons b l =>
    have hcell : ∀ j (hj : j < (b :: l).length), ∃ g, elemPtr (.slice oa (b :: l).length c) j = .pointer (some ⟨g, j, none⟩) ∧ (Value.slice oa (b :: l).length c).ownBlock = some g ∧ w.cell? ⟨g, j, none⟩ = some (.int .u8 ((b :: l)[j].toNat : Int)) := fun j hj => by
      obtain ⟨g, u, q1, q2, q3, q4, _⟩ := own_cells (hcr.owned _ (List.mem_of_getElem? hi)) (j := j) (x := AV.byte (b :: l)[j]) (by rw [bytes_flat, List.getElem?_map, List.getElem?_eq_getElem hj]; rfl)
      cases (show u = _ from q4)
      exact ⟨g, q1, q2, q3⟩
    obtain ⟨g, q1, q2, _⟩ := hcell 0 (by simp)
    cases oa with
    | none => simp [elemPtr] at q1
    | some ad =>
      have had : ad = ⟨g, 0, none⟩ := by
        simp only [elemPtr, Value.pointer.injEq, Option.some.injEq] at q1
        rw [add_zero] at q1; exact q1
      subst had
      have := run_convert_bytes_back (P := P) w src dst e ⟨g, 0, none⟩ c (b :: l) hs he hd (fun j hj => by
        obtain ⟨g', _, q2', q3⟩ := hcell j hj
        rw [q2] at q2'; injection q2' with q2'; subst q2'
        rw [addr_add, Nat.zero_add]; exact q3)
      exact ⟨_, by simp only [execOp, ho, h1, this, Sem.run_bind, Sem.run_pure, Result.andThen_ok], rfl⟩
end
end Go.AV

set_option linter.unusedVariables false
set_option linter.unusedSimpArgs false
namespace Go.AV
open Go.RowKit (Below)
section
variable {P : Program} {G : Nat → Prop} {n : Nat} {own : List Own} {o : Oper} {E : EnvF}
theorem awp_form {c : Code} {Q : Exit → AState → Prop} {env : List (Nat × AV)} {v : Value} {e : TypeId} {sz : Nat} {es : List (List AV)} (i : Nat) (hi : own[i]? = some (.arr v e sz es)) (k1 : v = .slice none 0 0 → es = [] → AWP P G n c Q ⟨own, env⟩)
    (k2 : ∀ g cap, v = .slice (some ⟨g, 0, none⟩) es.length cap → es.length ≤ cap → cap ≤ 9223372036854775807 → AWP P G n c Q ⟨own, env⟩) : AWP P G n c Q ⟨own, env⟩ := fun w0 R0 R a w hs => by
  obtain ⟨_, _, xs, hown, _⟩ := hs.1.owned _ (List.mem_of_getElem? hi)
  rcases hown.2 with ⟨h1, h2⟩ | ⟨g, cap, cur, h1, _, _, hn, hm, _⟩
  · exact k1 h1 (List.eq_nil_of_length_eq_zero h2) w0 R0 R a w hs
  · exact k2 g cap h1 hn (by unfold maxLen at hm; omega) w0 R0 R a w hs
/-- A slice as a value. -/
abbrev slv (g len cap : Nat) : Value := .slice (some ⟨g, 0, none⟩) len cap
section vals
variable {t e : TypeId} {p q q' q'' : Operand} {g len cap sz : Nat}
theorem w_vlen {oa : Option Addr} (ho : o.op = .call { callee := .builtin .len, args := #[p], argTypes := #[t] }) (ht : P.underlying t = some (.slice e)) (hp : Ev E p (AV.is (.slice oa len cap))) : OpW P G n own o E (AV.int len) := opW_val fun R a w _ he => by
  have h1 : a.eval p = _ := ev_use hp (by simp [ho, Op.operands, Call.operands]) he
  have hel : P.elem t = e := by simp [Program.elem, ht]
  have h2 := run_len_slice (P := P) w t o.type oa len cap (by rw [hel]; exact ht)
  exact ⟨.int .i64 len, by simp only [execOp, ho, resolve, invoke, builtin, List.map_toArray, List.map_cons, List.map_nil, h1, h2, Sem.run_bind, Sem.run_pure, Result.andThen_ok, goInt], rfl⟩
theorem w_vcap {oa : Option Addr} (ho : o.op = .call { callee := .builtin .cap, args := #[p], argTypes := #[t] }) (ht : P.underlying t = some (.slice e)) (hp : Ev E p (AV.is (.slice oa len cap))) : OpW P G n own o E (AV.int cap) := opW_val fun R a w _ he => by
  have h1 : a.eval p = _ := ev_use hp (by simp [ho, Op.operands, Call.operands]) he
  have hel : P.elem t = e := by simp [Program.elem, ht]
  have h2 := run_cap_slice (P := P) w t o.type oa len cap (by rw [hel]; exact ht)
  exact ⟨.int .i64 cap, by simp only [execOp, ho, resolve, invoke, builtin, List.map_toArray, List.map_cons, List.map_nil, h1, h2, Sem.run_bind, Sem.run_pure, Result.andThen_ok, goInt], rfl⟩
theorem sliced_head (g hi cap sz : Nat) : sliced (some ⟨g, 0, none⟩) 0 hi cap sz = slv g hi cap := by
  unfold sliced
  by_cases hc : cap = 0
  · simp [hc]
  · simp [hc, Addr.add]
theorem w_vhi {hi : Int} (ho : o.op = .slice t p none (some q) none) (ht : P.underlying t = some (.slice e)) (hsz : ∀ w, (sizeOf e).run P w = .ok sz w) (hp : Ev E p (AV.is (slv g len cap))) (hq : Ev E q (AV.int hi)) (h0 : 0 ≤ hi) (h1 : hi ≤ cap) : OpW P G n own o E (AV.is (slv g hi.toNat cap)) := opW_val fun R a w _ he => by
  have e1 : a.eval p = _ := ev_use hp (by simp [ho, Op.operands]) he
  have e2 : a.eval q = .int .i64 hi := ev_use hq (by simp [ho, Op.operands]) he
  have hel : P.elem t = e := by simp [Program.elem, ht]
  have hr1 := run_slice_h (P := P) (w := w) (t := t) (a := some ⟨g, 0, none⟩) (len := len) (cap := cap) (by rw [hel]; exact ht) .i64 hi h0 h1
  rw [hel, hsz, Result.andThen_ok, sliced_head] at hr1
  exact ⟨_, by simp only [execOp, ho, e1, e2, Option.map_some, Option.map_none, run_sliceAt_slice w t _ _ _ _ (by rw [hel]; exact ht), hr1, Sem.run_bind, Sem.run_pure, Result.andThen_ok], rfl⟩
theorem w_vlo {lo : Int} (ho : o.op = .slice t p (some q) none none) (ht : P.underlying t = some (.slice e)) (hsz : ∀ w, (sizeOf e).run P w = .ok sz w) (hp : Ev E p (AV.is (slv g len cap))) (hq : Ev E q (AV.int lo)) (h0 : 0 ≤ lo) (h1 : lo ≤ len) : OpW P G n own o E (AV.is (sliced (some ⟨g, 0, none⟩) lo.toNat len cap sz)) := opW_val fun R a w _ he => by
  have e1 : a.eval p = _ := ev_use hp (by simp [ho, Op.operands]) he
  have e2 : a.eval q = .int .i64 lo := ev_use hq (by simp [ho, Op.operands]) he
  have hel : P.elem t = e := by simp [Program.elem, ht]
  have hr1 := run_slice_l (P := P) (w := w) (t := t) (a := some ⟨g, 0, none⟩) (len := len) (cap := cap) (by rw [hel]; exact ht) .i64 lo h0 h1
  rw [hel, hsz, Result.andThen_ok] at hr1
  exact ⟨_, by simp only [execOp, ho, e1, e2, Option.map_some, Option.map_none, run_sliceAt_slice w t _ _ _ _ (by rw [hel]; exact ht), hr1, Sem.run_bind, Sem.run_pure, Result.andThen_ok], rfl⟩
theorem w_vlohi {lo hi : Int} (ho : o.op = .slice t p (some q) (some q') none) (ht : P.underlying t = some (.slice e)) (hsz : ∀ w, (sizeOf e).run P w = .ok sz w) (hp : Ev E p (AV.is (slv g len cap))) (hq : Ev E q (AV.int lo)) (hq' : Ev E q' (AV.int hi)) (h0 : 0 ≤ lo) (h1 : lo ≤ hi) (h2 : hi ≤ cap) : OpW P G n own o E (AV.is (sliced (some ⟨g, 0, none⟩) lo.toNat hi.toNat cap sz)) := opW_val fun R a w _ he => by
  have e1 : a.eval p = _ := ev_use hp (by simp [ho, Op.operands]) he
  have e2 : a.eval q = .int .i64 lo := ev_use hq (by simp [ho, Op.operands]) he
  have e3 : a.eval q' = .int .i64 hi := ev_use hq' (by simp [ho, Op.operands]) he
  have hel : P.elem t = e := by simp [Program.elem, ht]
  have hr1 := run_slice_lh (P := P) (w := w) (t := t) (a := some ⟨g, 0, none⟩) (len := len) (cap := cap) (by rw [hel]; exact ht) .i64 .i64 lo hi h0 h1 h2
  rw [hel, hsz, Result.andThen_ok] at hr1
  exact ⟨_, by simp only [execOp, ho, e1, e2, e3, Option.map_some, Option.map_none, run_sliceAt_slice w t _ _ _ _ (by rw [hel]; exact ht), hr1, Sem.run_bind, Sem.run_pure, Result.andThen_ok], rfl⟩
/-- s[i:j:k], of which nothing is used. -/
theorem w_v3 {oa : Option Addr} {lo hi mx : Int} (ho : o.op = .slice t p (some q) (some q') (some q'')) (ht : P.underlying t = some (.slice e)) (hsz : ∀ w, (sizeOf e).run P w = .ok sz w) (hp : Ev E p (AV.is (.slice oa len cap))) (hq : Ev E q (AV.int lo)) (hq' : Ev E q' (AV.int hi)) (hq'' : Ev E q'' (AV.int mx)) (h0 : 0 ≤ lo) (h1 : lo ≤ hi) (h2 : hi ≤ mx) (h3 : mx ≤ cap) : OpW P G n own o E AV.any := opW_val fun R a w _ he => by
  have e1 : a.eval p = _ := ev_use hp (by simp [ho, Op.operands]) he
  have e2 : a.eval q = .int .i64 lo := ev_use hq (by simp [ho, Op.operands]) he
  have e3 : a.eval q' = .int .i64 hi := ev_use hq' (by simp [ho, Op.operands]) he
  have e4 : a.eval q'' = .int .i64 mx := ev_use hq'' (by simp [ho, Op.operands]) he
  have hel : P.elem t = e := by simp [Program.elem, ht]
  have hb : (Instr.sliceBounds true len cap (some (.int .i64 lo)) (some (.int .i64 hi)) (some (.int .i64 mx))).run P w = .ok (lo.toNat, hi.toNat, mx.toNat) w := by
    have g1 : (hi.toNat : Int) = hi := Int.toNat_of_nonneg (by omega)
    have g2 : (mx.toNat : Int) = mx := Int.toNat_of_nonneg (by omega)
    simp [Instr.sliceBounds, run_sliceBound, *, (by omega : 0 ≤ hi), (by omega : 0 ≤ mx)]
  have hr1 := run_slice_any (P := P) (w := w) (t := t) (a := oa) (len := len) (cap := cap) (by rw [hel]; exact ht) (some (.int .i64 lo)) (some (.int .i64 hi)) (some (.int .i64 mx))
  rw [hb, Result.andThen_ok, hel, hsz, Result.andThen_ok] at hr1
  dsimp only at hr1
  exact ⟨sliced oa lo.toNat hi.toNat mx.toNat sz, by simp only [execOp, ho, e1, e2, e3, e4, Option.map_some, Option.map_none, run_sliceAt_slice w t _ _ _ _ (by rw [hel]; exact ht), hr1, Sem.run_bind, Sem.run_pure, Result.andThen_ok], trivial⟩
end vals

/-! ### copy -/
theorem run_copy_rowN (w : World) (dT sT ty elem : TypeId) {inf : TypeInfo} (g o dLen dCap : Nat) (a : Addr) (sLen sCap : Nat) (cur : Array Value) (t : TypeId) (cs : List Value)
    (hu : P.underlying dT = some (.slice elem)) (hi : P.info? elem = some inf)
    (hg : w.heap[g]? = some (.cells cur t (0, 0))) (hn : cs.length = Nat.min sLen dLen * inf.size)
    (hsrc : ∀ j v, cs[j]? = some v → w.cell? (a.add j) = some v) (hfit : o + cs.length ≤ cur.size) (h1 : ∀ v ∈ cs, v.oneCell' = true) :
    (Builtin.copy_ #[dT, sT] ty #[.slice (some ⟨g, o, none⟩) dLen dCap, .slice (some a) sLen sCap]).run P w =
      .ok (goInt (Nat.min sLen dLen)) (w.setRow g (cur.toList.take o ++ cs ++ cur.toList.drop (o + cs.length)).toArray) := by
  have hl := run_loadCells_list (P := P) w a cs hsrc
  have hst := run_storeCells_at P g o t cs 0 cur w hg (by simpa using hfit) h1
  simp [Builtin.copy_, run_underlying hu, Builtin.lenOf, Builtin.firstCells, sizeOf, typeInfo, hi, ← hn, hl, hst]
/-- What a copy reads: these elements. -/
def SrcIs (own : List Own) (E : EnvF) (q : Operand) (sz : Nat) (fs : List (List AV)) : Prop :=
  ∀ (G : Nat → Prop) (w0 : World) (R0 R : RHeap) (a : Act) (w : World), Core G w0 R0 own R w → (∀ t, q = .tmp t → ∀ y, E t = some y → y.den R (a.tmps.getD t undef)) →
    (∀ f ∈ fs, f.length = sz) ∧ (fs ≠ [] → ∃ ad cap vs, a.eval q = .slice (some ad) fs.length cap ∧ (∀ j u, vs[j]? = some u → w.cell? (ad.add j) = some u) ∧ DenC R vs fs.flatten)
theorem src_list {q : Operand} {sz : Nat} {fs : List (List AV)} (hq : Ev E q (AV.list sz fs)) : SrcIs own E q sz fs := fun G w0 R0 R a w hc he => by
  obtain ⟨oa, c, e2, _, _, hu, hcell⟩ := hq R a he
  refine ⟨hu, fun hne => ?_⟩
  obtain ⟨ad, rfl, hca⟩ := hcell hne
  obtain ⟨vs, _, h2, h3⟩ := list_cells (sz := sz) hc.rle hca
  exact ⟨ad, c, vs, e2, h2, h3⟩
theorem own_vals {R : RHeap} {w : World} {g len cap : Nat} {e : TypeId} {sz : Nat} {es : List (List AV)} (h : Own.ok R w (.arr (slv g len cap) e sz es)) : len = es.length ∧ len ≤ cap ∧ cap ≤ maxLen ∧ (∀ x ∈ es, x.length = sz) ∧ ∃ (cur : Array Value) (xs : List Value), w.heap[g]? = some (.cells cur e (0, 0)) ∧ cur.size = cap * sz ∧ cur.toList.take (len * sz) = xs ∧ xs.length = len * sz ∧ DenC R xs es.flatten := by
  obtain ⟨_, hu, xs, hown, hd⟩ := h
  rcases hown.2 with ⟨h1, _⟩ | ⟨g', cap', cur, h1, _, hg, hn, hm, hcs, htake⟩
  · cases h1
  · injection h1 with e1 e2 e3
    injection e1 with e1
    injection e1 with e1
    subst e1; subst e2; subst e3
    exact ⟨rfl, hn, hm, hu, cur, xs, hg, hcs, htake, hown.1, hd⟩
theorem src_own {q : Operand} {g len cap k : Nat} {e : TypeId} {sz : Nat} {es : List (List AV)} (i : Nat) (hi : own[i]? = some (.arr (slv g len cap) e sz es)) (hq : Ev E q (AV.is (sliced (some ⟨g, 0, none⟩) k len cap sz))) : SrcIs own E q sz (es.drop k) := fun G w0 R0 R a w hc he => by
  have e1 : a.eval q = _ := hq R a he
  obtain ⟨hl, hlc, _, hu, cur, xs, hg, hcs, htake, hxl, hd⟩ := own_vals (hc.owned _ (List.mem_of_getElem? hi))
  refine ⟨fun f hf => hu f (List.mem_of_mem_drop hf), fun hne => ?_⟩
  have hk : k < es.length := by
    rcases Nat.lt_or_ge k es.length with h | h
    · exact h
    · exact absurd (List.drop_eq_nil_of_le h) hne
  have hmul : k * sz ≤ len * sz := Nat.mul_le_mul_right sz (by omega)
  refine ⟨⟨g, k * sz, none⟩, cap - k, xs.drop (k * sz), ?_, fun j u hu' => ?_, ?_⟩
  · rw [e1]; unfold sliced
    rw [if_neg (by omega), Option.map_some, addr_add, Nat.zero_add, List.length_drop, hl]
  · rw [List.getElem?_drop] at hu'
    have hjl : k * sz + j < len * sz := by rw [← hxl]; exact (List.getElem?_eq_some_iff.1 hu').1
    rw [addr_add]
    rw [← htake, List.getElem?_take_of_lt hjl, Array.getElem?_toList] at hu'
    simp [World.cell?, hg, hu']
  · rw [flatten_drop k hu]
    exact ⟨by simp [hd.1], fun j v x hv hx => hd.2 _ v x (by rw [List.getElem?_drop] at hv; exact hv) (by rw [List.getElem?_drop] at hx; exact hx)⟩
theorem src_own0 {q : Operand} {g len cap : Nat} {e : TypeId} {sz : Nat} {es : List (List AV)} (i : Nat) (hi : own[i]? = some (.arr (slv g len cap) e sz es)) (hq : Ev E q (AV.is (slv g len cap))) : SrcIs own E q sz es := by
  have := src_own (k := 0) i hi (by rw [sliced_head]; exact hq)
  rwa [List.drop_zero] at this
theorem sliced_tail {g k m cap sz : Nat} (h : k < m) (hc : m ≤ cap) : sliced (some ⟨g, 0, none⟩) k m cap sz = .slice (some ⟨g, k * sz, none⟩) (m - k) (cap - k) := by
  unfold sliced
  rw [if_neg (by omega), Option.map_some, addr_add, Nat.zero_add]
theorem flat_splice3 {sz k : Nat} {es fs : List (List AV)} (hu : ∀ e ∈ es, e.length = sz) (hf : ∀ f ∈ fs, f.length = sz) : (es.take k ++ fs ++ es.drop (k + fs.length)).flatten = splice es.flatten (k * sz) fs.flatten := by
  rw [List.flatten_append, List.flatten_append, flatten_take k hu, flatten_drop (k + fs.length) hu]
  unfold splice
  rw [flatten_len hf, Nat.add_mul]
/-- copy into the elements from k on. -/
theorem sq_copy {ops : Array Oper} {rest : List Oper} {env : List (Nat × AV)} {K : AState → Prop} {t e : TypeId} {p q : Operand} {d sz g len cap k m : Nat} {inf : TypeInfo} {es fs : List (List AV)} (i : Nat) (hg : o.guard = none) (ho : o.op = .call { callee := .builtin .copy, args := #[p, q], argTypes := #[t, t] }) (hd : o.dst = some d) (hn : Nat.blt d n = true)
    (ht : P.underlying t = some (.slice e)) (hinf : P.info? e = some inf) (hsz : inf.size = sz) (hp : Ev (getv · env) p (AV.is (sliced (some ⟨g, 0, none⟩) k m cap sz))) (hq : SrcIs own (getv · env) q sz fs) (hi : own[i]? = some (.arr (slv g len cap) e sz es))
    (hk : k + fs.length ≤ len) (hm : k + fs.length ≤ m) (hmc : m ≤ cap) (hne : fs ≠ []) (c : ASeq P G n ops rest ⟨own.set i (.arr (slv g len cap) e sz (es.take k ++ fs ++ es.drop (k + fs.length))), (d, AV.int fs.length) :: env⟩ K) : ASeq P G n ops (o :: rest) ⟨own, env⟩ K :=
  opS_run hg fun w0 R0 R a w ⟨h1, h2, h3, h4⟩ => by
    have e1 : a.eval p = _ := ev_st (s := ⟨own, env⟩) (o := o) hp h2
    obtain ⟨hfu, hsrc⟩ := hq G w0 R0 R a w h1 (fun t _ y hy => h2 t y hy)
    obtain ⟨ad, sc, vs, e2, hcell, hden⟩ := hsrc hne
    have hpos : 0 < fs.length := List.length_pos_iff.2 hne
    have hok := h1.owned _ (List.mem_of_getElem? hi)
    obtain ⟨hl, hlc, hcm, hu, cur, xs, hgw, hcs, htake, hxl, hdc⟩ := own_vals hok
    rw [sliced_tail (by omega) hmc] at e1
    have hvl : vs.length = fs.length * sz := by rw [hden.1, flatten_len hfu]
    have hmin : Nat.min fs.length (m - k) = fs.length := Nat.min_eq_left (by omega)
    have hone : ∀ u ∈ vs, u.oneCell' = true := fun u hmu => by
      obtain ⟨j, hj⟩ := List.getElem?_of_mem hmu
      have hjl : j < fs.flatten.length := by rw [← hden.1]; exact (List.getElem?_eq_some_iff.1 hj).1
      exact (hden.2 j u _ hj (List.getElem?_eq_getElem hjl)).2
    have hb1 : k * sz + fs.length * sz ≤ len * sz := by rw [← Nat.add_mul]; exact Nat.mul_le_mul_right sz hk
    have hb2 : len * sz ≤ cap * sz := Nat.mul_le_mul_right sz hlc
    have hr := run_copy_rowN (P := P) w t t o.type e g (k * sz) (m - k) (cap - k) ad fs.length sc cur e vs ht hinf hgw (by rw [hmin, hsz]; exact hvl) hcell (by rw [hvl, hcs]; omega) hone
    rw [hmin] at hr
    have hex : (execOp a.eval o).run P w = .ok (.value (.int .i64 fs.length)) (w.setRow g (cur.toList.take (k * sz) ++ vs ++ cur.toList.drop (k * sz + vs.length)).toArray) := by
      simp only [execOp, ho, resolve, invoke, builtin, Sem.run_bind, Sem.run_pure, Result.andThen_ok, List.map_toArray, List.map_cons, List.map_nil, e1, e2, hr, goInt]
    unfold Oper.wp
    rw [hex, Oper.upon_value, hd]
    have hel : (es.take k ++ fs ++ es.drop (k + fs.length)).length = len := by simp; omega
    refine ⟨_, R, c, RSub.refl _, core_set h1 hi rfl rfl ⟨hok.1, fun z hz => ?_, xs.take (k * sz) ++ vs ++ xs.drop (k * sz + vs.length), ⟨?_, .inr ⟨g, cap, _, by rw [hel], Nat.zero_le _, setRow_heap w g _ _ e _ hgw, by rw [hel]; exact hlc, hcm, ?_, ?_⟩⟩, ?_⟩ (setRow_grown w g _), env_put h2 (RSub.refl _) (by rw [h3]; exact Nat.blt_eq.mp hn) rfl, by rw [size_put]; exact h3, by rw [defers_put]; exact h4⟩
    · rcases List.mem_append.1 hz with hz | hz
      · rcases List.mem_append.1 hz with hz | hz
        · exact hu z (List.mem_of_mem_take hz)
        · exact hfu z hz
      · exact hu z (List.mem_of_mem_drop hz)
    · rw [hel]; simp only [List.length_append, List.length_take, List.length_drop, hxl, hvl]; omega
    · simp only [List.size_toArray, List.length_append, List.length_take, List.length_drop, Array.length_toList, hvl, hcs]; omega
    · rw [hel, ← htake]
      exact take_splice (by rw [Array.length_toList, hcs]; exact hb2) (by rw [hvl]; exact hb1)
    · rw [flat_splice3 hu hfu]
      exact denC_splice hdc hden (by rw [flatten_len hu, flatten_len hfu, ← hl]; exact hb1)
/-- copy of the elements from k on, one place further: the row grows by one within its capacity. -/
theorem sq_shift {ops : Array Oper} {rest : List Oper} {env : List (Nat × AV)} {K : AState → Prop} {t e : TypeId} {p q : Operand} {d sz g len cap k : Nat} {inf : TypeInfo} {es : List (List AV)} (i : Nat) (hg : o.guard = none) (ho : o.op = .call { callee := .builtin .copy, args := #[p, q], argTypes := #[t, t] }) (hd : o.dst = some d) (hn : Nat.blt d n = true)
    (ht : P.underlying t = some (.slice e)) (hinf : P.info? e = some inf) (hsz : inf.size = sz) (hp : Ev (getv · env) p (AV.is (sliced (some ⟨g, 0, none⟩) (k + 1) (len + 1) cap sz))) (hq : Ev (getv · env) q (AV.is (sliced (some ⟨g, 0, none⟩) k (len + 1) cap sz))) (hi : own[i]? = some (.arr (slv g len cap) e sz es))
    (hk : k < len) (hc : len + 1 ≤ cap) (c : ∀ j, ASeq P G n ops rest ⟨own.set i (.arr (slv g (len + 1) cap) e sz (es.take (k + 1) ++ es.drop k)), (d, AV.int j) :: env⟩ K) : ASeq P G n ops (o :: rest) ⟨own, env⟩ K :=
  opS_run hg fun w0 R0 R a w ⟨h1, h2, h3, h4⟩ => by
    have e1 : a.eval p = _ := ev_st (s := ⟨own, env⟩) (o := o) hp h2
    have e2 : a.eval q = _ := ev_st (s := ⟨own, env⟩) (o := o) hq h2
    have hok := h1.owned _ (List.mem_of_getElem? hi)
    obtain ⟨hl, hlc, hcm, hu, cur, xs, hgw, hcs, htake, hxl, hdc⟩ := own_vals hok
    rw [sliced_tail (by omega) hc] at e1 e2
    have hmin : Nat.min (len + 1 - k) (len + 1 - (k + 1)) = len - k := by
      show min (len + 1 - k) (len + 1 - (k + 1)) = len - k
      omega
    have hb0 : k * sz ≤ len * sz := Nat.mul_le_mul_right sz (by omega)
    have hb1 : (k + 1) * sz + (len - k) * sz = (len + 1) * sz := by rw [← Nat.add_mul]; congr 1; omega
    have hb2 : (len + 1) * sz ≤ cap * sz := Nat.mul_le_mul_right sz hc
    have hb3 : (k + 1) * sz ≤ len * sz := Nat.mul_le_mul_right sz (by omega)
    have hb4 : len * sz ≤ cap * sz := Nat.mul_le_mul_right sz hlc
    have hvl : (xs.drop (k * sz)).length = (len - k) * sz := by rw [List.length_drop, hxl, Nat.sub_mul]
    have hone : ∀ u ∈ xs.drop (k * sz), u.oneCell' = true := fun u hmu => by
      obtain ⟨j, hj⟩ := List.getElem?_of_mem (List.mem_of_mem_drop hmu)
      have hjl : j < es.flatten.length := by rw [← hdc.1]; exact (List.getElem?_eq_some_iff.1 hj).1
      exact (hdc.2 j u _ hj (List.getElem?_eq_getElem hjl)).2
    have hcell : ∀ j u, (xs.drop (k * sz))[j]? = some u → w.cell? ((⟨g, k * sz, none⟩ : Addr).add j) = some u := fun j u hu' => by
      rw [List.getElem?_drop] at hu'
      have hjl : k * sz + j < len * sz := by rw [← hxl]; exact (List.getElem?_eq_some_iff.1 hu').1
      rw [addr_add]
      rw [← htake, List.getElem?_take_of_lt hjl, Array.getElem?_toList] at hu'
      simp [World.cell?, hgw, hu']
    have hr := run_copy_rowN (P := P) w t t o.type e g ((k + 1) * sz) (len + 1 - (k + 1)) (cap - (k + 1)) ⟨g, k * sz, none⟩ (len + 1 - k) (cap - k) cur e (xs.drop (k * sz)) ht hinf hgw (by rw [hmin, hsz]; exact hvl) hcell (by rw [hvl, hcs]; omega) hone
    rw [hmin] at hr
    have hex : (execOp a.eval o).run P w = .ok (.value (.int .i64 ((len - k : Nat) : Int))) (w.setRow g (cur.toList.take ((k + 1) * sz) ++ xs.drop (k * sz) ++ cur.toList.drop ((k + 1) * sz + (xs.drop (k * sz)).length)).toArray) := by
      simp only [execOp, ho, resolve, invoke, builtin, Sem.run_bind, Sem.run_pure, Result.andThen_ok, List.map_toArray, List.map_cons, List.map_nil, e1, e2, hr, goInt]
    unfold Oper.wp
    rw [hex, Oper.upon_value, hd]
    have hel : (es.take (k + 1) ++ es.drop k).length = len + 1 := by simp; omega
    refine ⟨_, R, c _, RSub.refl _, core_set h1 hi rfl rfl ⟨hok.1, fun z hz => ?_, xs.take ((k + 1) * sz) ++ xs.drop (k * sz), ⟨?_, .inr ⟨g, cap, _, by rw [hel], Nat.zero_le _, setRow_heap w g _ _ e _ hgw, by rw [hel]; exact hc, hcm, ?_, ?_⟩⟩, ?_⟩ (setRow_grown w g _), env_put h2 (RSub.refl _) (by rw [h3]; exact Nat.blt_eq.mp hn) rfl, by rw [size_put]; exact h3, by rw [defers_put]; exact h4⟩
    · rcases List.mem_append.1 hz with hz | hz
      · exact hu z (List.mem_of_mem_take hz)
      · exact hu z (List.mem_of_mem_drop hz)
    · rw [hel, List.length_append, hvl, List.length_take, hxl]; omega
    · simp only [List.size_toArray, List.length_append, List.length_take, List.length_drop, Array.length_toList, hcs, hxl]
      have : len * sz - k * sz = (len - k) * sz := (Nat.sub_mul _ _ _).symm
      omega
    · rw [hel]
      show List.take ((len + 1) * sz) (cur.toList.take ((k + 1) * sz) ++ xs.drop (k * sz) ++ cur.toList.drop ((k + 1) * sz + (xs.drop (k * sz)).length)) = _
      have hl2 : (cur.toList.take ((k + 1) * sz) ++ xs.drop (k * sz)).length = (len + 1) * sz := by rw [List.length_append, hvl, List.length_take, Array.length_toList, hcs]; omega
      rw [← hl2, List.take_left', ← htake, List.take_take, Nat.min_eq_left hb3]
      rfl
    · rw [List.flatten_append, flatten_take (k + 1) hu, flatten_drop k hu]
      refine denC_append' ⟨by simp [hdc.1], fun j u x hu' hx => ?_⟩ ⟨by simp [hdc.1], fun j u x hu' hx => ?_⟩
      · by_cases hj : j < (k + 1) * sz
        · rw [List.getElem?_take_of_lt hj] at hu' hx; exact hdc.2 j u x hu' hx
        · rw [List.getElem?_eq_none (by simp; omega)] at hu'; cases hu'
      · rw [List.getElem?_drop] at hu' hx; exact hdc.2 _ u x hu' hx
theorem zero_den {R : RHeap} {z : Value} {sz : Nat} (hzs : z.cells.size = sz) (h1z : z.cells.toList.all Value.oneCell' = true) (hpos : 0 < sz) (m : Nat) : DenC R (Builtin.zeroCells z.cells m).toList (List.replicate m (z.cells.toList.map zeroA)).flatten := by
  have hlz := zeroCells_list z sz hzs m
  have hu : ∀ e ∈ List.replicate m (z.cells.toList.map zeroA), e.length = sz := fun e he => by rw [(List.mem_replicate.1 he).2]; simp [hzs]
  refine ⟨by rw [hlz.1, flatten_len hu]; simp, fun j u x hu' hx => ?_⟩
  have hjl : j < m * sz := by rw [← hlz.1]; exact (List.getElem?_eq_some_iff.1 hu').1
  have hjm : j % sz < sz := Nat.mod_lt _ hpos
  have hjd : j / sz < m := Nat.div_lt_of_lt_mul (by rw [Nat.mul_comm]; exact hjl)
  have hjj : j / sz * sz + j % sz = j := by rw [Nat.mul_comm]; exact Nat.div_add_mod j sz
  have hzj : z.cells.toList[j % sz]? = some (z.cells.toList[j % sz]'(by simp [hzs]; exact hjm)) := List.getElem?_eq_getElem _
  have hx2 := flatten_get hu (i := j / sz) (e := z.cells.toList.map zeroA) (by rw [List.getElem?_replicate, if_pos hjd]) (k := j % sz) (x := zeroA (z.cells.toList[j % sz]'(by simp [hzs]; exact hjm))) (by rw [List.getElem?_map, hzj]; rfl)
  rw [hjj, hx] at hx2
  injection hx2 with hx2
  have hu2 : u = z.cells.toList[j % sz]'(by simp [hzs]; exact hjm) := by
    rw [hlz.2 j u hu', getElem!_pos z.cells _ (by rw [hzs]; exact hjm)]; simp
  rw [hx2, hu2]
  exact ⟨zeroA_den R _, List.all_eq_true.1 h1z _ (by simp)⟩
/-- append(s[:j], make([]T, m)...) where no room is: a new row. -/
theorem sq_appendZ {ops : Array Oper} {rest : List Oper} {env : List (Nat × AV)} {K : AState → Prop} {t tn e : TypeId} {p q : Operand} {kn : IntKind} {d sz by' g len cap j m : Nat} {inf : TypeInfo} {z : Value} {es : List (List AV)} (i : Nat) (hg : o.guard = none) (ho : o.op = .call { callee := .builtin .append, args := #[p, q], argTypes := #[t, tn] }) (hd : o.dst = some d) (hn : Nat.blt d n = true)
    (ht : P.underlying t = some (.slice e)) (htn : P.underlying tn = some (.int kn)) (hinf : P.info? e = some inf) (hz : inf.zero = some z) (hsz : inf.size = sz) (hby : inf.bytes = by') (hzs : z.cells.size = sz) (hpos' : Nat.ble 1 sz = true) (h1z : z.cells.toList.all Value.oneCell' = true) (hp : Ev (getv · env) p (AV.is (slv g j cap))) (hq : Ev (getv · env) q (AV.int m)) (hi : own[i]? = some (.arr (slv g len cap) e sz es))
    (hj : j ≤ len) (hm : 0 < m) (hc : cap < j + m) (hlen : (j + m) * by' ≤ 140737488355328) (hlen2 : j + m ≤ 9223372036854775807) (k : ∀ g' cap', j + m ≤ cap' → ASeq P G n ops rest ⟨.arr (slv g' (j + m) cap') e sz (es.take j ++ List.replicate m (z.cells.toList.map zeroA)) :: own, (d, AV.is (slv g' (j + m) cap')) :: env⟩ K) : ASeq P G n ops (o :: rest) ⟨own, env⟩ K :=
  opS_run hg fun w0 R0 R a w ⟨h1, h2, h3, h4⟩ => by
    have hpos := Nat.le_of_ble_eq_true hpos'
    have e1 : a.eval p = _ := ev_st (s := ⟨own, env⟩) (o := o) hp h2
    have e2 : a.eval q = .int .i64 m := ev_st (s := ⟨own, env⟩) (o := o) hq h2
    obtain ⟨hl, hlc, hcm, hu, cur, xs, hgw, hcs, htake, hxl, hdc⟩ := own_vals (h1.owned _ (List.mem_of_getElem? hi))
    have hb1 : j * sz ≤ len * sz := Nat.mul_le_mul_right sz hj
    have hb2 : len * sz ≤ cap * sz := Nat.mul_le_mul_right sz hlc
    have hold : (Builtin.firstCells inf.size j (slv g j cap)).run P w.drew = .ok (xs.take (j * sz)).toArray w.drew := by
      have := run_loadCells_list (P := P) w.drew ⟨g, 0, none⟩ (xs.take (j * sz)) (fun i u hu' => by
        have hil : i < j * sz := by have := (List.getElem?_eq_some_iff.1 hu').1; rw [List.length_take] at this; omega
        rw [List.getElem?_take_of_lt hil, ← htake, List.getElem?_take_of_lt (by omega), Array.getElem?_toList] at hu'
        rw [addr_add, Nat.zero_add]
        show w.cell? _ = _
        simp [World.cell?, hgw, hu'])
      rw [List.length_take, hxl, Nat.min_eq_left hb1] at this
      simpa [Builtin.firstCells, hsz] using this
    have hr := Lib.run_append_grow_zeros (P := P) w t tn o.type e inf z .i64 kn ht htn hinf hz (some ⟨g, 0, none⟩) j cap _ hold m hm (by omega) hc (by omega) (by
      have : m * by' ≤ (j + m) * by' := Nat.mul_le_mul_right _ (by omega)
      rw [hby]; omega) (by rw [hby]; exact growslice_fits hc hlen)
    have hex : (execOp a.eval o).run P w = .ok (.value (slv w.heap.size (j + m) (grownCap w (j + m) cap e))) (w.drew.alloc (.cells ((xs.take (j * sz)).toArray ++ Builtin.zeroCells z.cells m ++ Builtin.zeroCells z.cells (grownCap w (j + m) cap e - (j + m))) e)) := by
      simp only [execOp, ho, resolve, invoke, builtin, Sem.run_bind, Sem.run_pure, Result.andThen_ok, List.map_toArray, List.map_cons, List.map_nil, e1, e2, hr]
    unfold Oper.wp
    rw [hex, Oper.upon_value, hd]
    have hge := grownCap_ge w (j + m) cap e
    have hcm2 : grownCap w (j + m) cap e ≤ maxLen := grownCap_le_maxLen w (j + m) cap e (by unfold maxLen; omega)
    have hl1 : (xs.take (j * sz)).length = j * sz := by rw [List.length_take, hxl]; omega
    refine ⟨_, R, k _ _ hge, RSub.refl _, core_arr_new (sz := sz) (m := j + m) (cap := grownCap w (j + m) cap e) (core_drew h1) (by simp; omega) hge hcm2 ?_ (fun x hx => ?_) ?_, env_put h2 (RSub.refl _) (by rw [h3]; exact Nat.blt_eq.mp hn) rfl, by rw [size_put]; exact h3, by rw [defers_put]; exact h4⟩
    · simp only [Array.size_append, List.size_toArray, size_zeroCells, hl1, hzs, ← Nat.add_mul]
      congr 1; omega
    · rcases List.mem_append.1 hx with hx | hx
      · exact hu x (List.mem_of_mem_take hx)
      · rw [(List.mem_replicate.1 hx).2]; simp [hzs]
    · have hsz3 : ((xs.take (j * sz)).toArray ++ Builtin.zeroCells z.cells m).toList.length = (j + m) * sz := by simp only [Array.length_toList, Array.size_append, List.size_toArray, size_zeroCells, hl1, hzs, Nat.add_mul]
      rw [Array.toList_append, List.take_left' hsz3, Array.toList_append, List.flatten_append]
      refine denC_append' ?_ (zero_den hzs h1z (by omega) m)
      rw [flatten_take j hu]
      exact ⟨by simp [hdc.1], fun i u x hu' hx => by
        by_cases hij : i < j * sz
        · simp only [List.getElem?_take_of_lt hij] at hu' hx; exact hdc.2 i u x hu' hx
        · rw [List.getElem?_eq_none (by simp; omega)] at hu'; cases hu'⟩
/-- Two rows of the call's own do not overlap. -/
theorem w_overlapsF {f : FuncId} {fn : Func} {t e tb : TypeId} {p q : Operand} {tys : Array TypeId} {gv cv g len cap k m sz : Nat} {lv : Nat} {es vs : List (List AV)} (iv i : Nat) (ho : o.op = .call { callee := .value (.func f), args := #[p, q], argTypes := tys }) (hf : P.funcs[f]? = some fn) (hname : (fn.name == "runtime.NumGoroutine") = false) (hb : fn.body.isNone = true) (hnx : Extern.findNext fn = none) (he : Extern.find fn = some (Extern.SlicesOverlaps.overlaps #[t, t] #[tb]))
    (ht : P.underlying t = some (.slice e)) (hsz : ∀ w, (sizeOf e).run P w = .ok sz w) (hp : Ev E p (AV.is (slv gv lv cv))) (hq : Ev E q (AV.is (sliced (some ⟨g, 0, none⟩) k m cap sz))) (hiv : own[iv]? = some (.arr (slv gv lv cv) e sz vs)) (hi : own[i]? = some (.arr (slv g len cap) e sz es)) (hne : Nat.beq iv i = false) (hcap : 0 < cap) (hpos : Nat.ble 1 sz = true) :
    OpW P G n own o E (AV.bool false) := opW_core fun w0 R0 R a w hcr hen => by
  have e1 : a.eval p = _ := ev_use hp (by simp [ho, Op.operands, Call.operands]) hen
  have e2 : a.eval q = _ := ev_use hq (by simp [ho, Op.operands, Call.operands]) hen
  have hb1 := Nat.le_of_ble_eq_true hpos
  have hij : iv ≠ i := fun h => by rw [h, Nat.beq_refl] at hne; cases hne
  obtain ⟨_, _, _, _, curv, xsv, hgv, hcv, _⟩ := own_vals (hcr.owned _ (List.mem_of_getElem? hiv))
  obtain ⟨_, _, _, _, cur, xs, hg, hcs, _⟩ := own_vals (hcr.owned _ (List.mem_of_getElem? hi))
  have hgne : gv ≠ g := fun h => sep_get hcr.sep hiv hi hij (b := gv) rfl (by rw [h]; rfl)
  obtain ⟨ad, lb, cb, hsl, hadb⟩ : ∃ ad lb cb, sliced (some ⟨g, 0, none⟩) k m cap sz = .slice (some ad) lb cb ∧ ad.block = g := by
    unfold sliced
    by_cases h : cap = k
    · exact ⟨_, _, _, by rw [if_pos h], rfl⟩
    · exact ⟨_, _, _, by rw [if_neg h, Option.map_some], by rw [addr_add]⟩
  rw [hsl] at e2
  have hkB : cap * sz ≠ 0 := Nat.mul_ne_zero (by omega) (by omega)
  have h3 := Lib.run_overlaps_apart (P := P) w t tb e ht sz hsz ⟨gv, 0, none⟩ ad lv cv lb cb (by rw [hadb]; exact hgne) e e curv.size cur.size (by simp [World.shape?, hgv]) (by simp [World.shape?, hadb, hg]) (by rw [hcs]; exact hkB) (by simp [World.frozen?, hgv]) (by simp [World.frozen?, hgv])
  have h4 := run_callFunc_extern (P := P) hf hname hb hnx he #[slv gv lv cv, .slice (some ad) lb cb] w
  rw [h3, Result.andThen_ok] at h4
  refine ⟨.bool false, ?_, rfl⟩
  simp only [execOp, ho, resolve, List.map_toArray, List.map_cons, List.map_nil, e1, e2, show a.eval (.func f) = .func (.func f) #[] #[] from rfl]
  simp [Deferred.ofValue, invoke, h4]
/-- append(s[:k], s[j:]...) in place. -/
theorem sq_cutout {ops : Array Oper} {rest : List Oper} {env : List (Nat × AV)} {K : AState → Prop} {t e : TypeId} {p q : Operand} {d sz g len cap k j : Nat} {inf : TypeInfo} {es : List (List AV)} (i : Nat) (hg : o.guard = none) (ho : o.op = .call { callee := .builtin .append, args := #[p, q], argTypes := #[t, t] }) (hd : o.dst = some d) (hn : Nat.blt d n = true)
    (ht : P.underlying t = some (.slice e)) (hinf : P.info? e = some inf) (hsz : inf.size = sz) (hp : Ev (getv · env) p (AV.is (slv g k cap))) (hq : Ev (getv · env) q (AV.is (sliced (some ⟨g, 0, none⟩) j len cap sz))) (hi : own[i]? = some (.arr (slv g len cap) e sz es)) (hk : k ≤ j) (hj : j ≤ len)
    (c : ASeq P G n ops rest ⟨own.set i (.arr (slv g (k + (len - j)) cap) e sz (es.take k ++ es.drop j)), (d, AV.is (slv g (k + (len - j)) cap)) :: env⟩ K) : ASeq P G n ops (o :: rest) ⟨own, env⟩ K :=
  opS_run hg fun w0 R0 R a w ⟨h1, h2, h3, h4⟩ => by
    have e1 : a.eval p = _ := ev_st (s := ⟨own, env⟩) (o := o) hp h2
    have e2 : a.eval q = _ := ev_st (s := ⟨own, env⟩) (o := o) hq h2
    have hok := h1.owned _ (List.mem_of_getElem? hi)
    obtain ⟨hl, hlc, hcm, hu, cur, xs, hgw, hcs, htake, hxl, hdc⟩ := own_vals hok
    obtain ⟨ad, cb, hsl, hadb⟩ : ∃ ad cb, sliced (some ⟨g, 0, none⟩) j len cap sz = .slice (some ad) (len - j) cb ∧ (j < len → ad = ⟨g, j * sz, none⟩) := by
      unfold sliced
      by_cases h : cap = j
      · exact ⟨_, _, by rw [if_pos h], fun h' => by omega⟩
      · exact ⟨_, _, by rw [if_neg h, Option.map_some], fun _ => by rw [addr_add, Nat.zero_add]⟩
    rw [hsl] at e2
    have hb0 : k * sz ≤ j * sz := Nat.mul_le_mul_right sz hk
    have hb1 : j * sz ≤ len * sz := Nat.mul_le_mul_right sz hj
    have hb4 : len * sz ≤ cap * sz := Nat.mul_le_mul_right sz hlc
    have hvl : (xs.drop (j * sz)).length = (len - j) * sz := by rw [List.length_drop, hxl, Nat.sub_mul]
    have hsum : (len - j) * sz = len * sz - j * sz := Nat.sub_mul _ _ _
    have hone : ∀ u ∈ xs.drop (j * sz), u.oneCell' = true := fun u hmu => by
      obtain ⟨i', hj'⟩ := List.getElem?_of_mem (List.mem_of_mem_drop hmu)
      have hjl : i' < es.flatten.length := by rw [← hdc.1]; exact (List.getElem?_eq_some_iff.1 hj').1
      exact (hdc.2 i' u _ hj' (List.getElem?_eq_getElem hjl)).2
    have hcell : ∀ i' u, (xs.drop (j * sz))[i']? = some u → w.cell? (ad.add i') = some u := fun i' u hu' => by
      rw [List.getElem?_drop] at hu'
      have hjl : j * sz + i' < len * sz := by rw [← hxl]; exact (List.getElem?_eq_some_iff.1 hu').1
      have hjlt : j < len := by
        rcases Nat.lt_or_ge j len with h | h
        · exact h
        · have := Nat.mul_le_mul_right sz h; omega
      rw [hadb hjlt, addr_add]
      rw [← htake, List.getElem?_take_of_lt hjl, Array.getElem?_toList] at hu'
      simp [World.cell?, hgw, hu']
    have hr := run_append_room (P := P) w t o.type e inf ht hinf g k cap cur hgw ad (len - j) cb (xs.drop (j * sz)) (by rw [hvl, hsz]) hcell hone (by omega) (by rw [hvl, hcs, hsz]; omega)
    rw [hsz] at hr
    have hex : (execOp a.eval o).run P w = .ok (.value (slv g (k + (len - j)) cap)) (w.setRow g (cur.toList.take (k * sz) ++ xs.drop (j * sz) ++ cur.toList.drop (k * sz + (xs.drop (j * sz)).length)).toArray) := by
      simp only [execOp, ho, resolve, invoke, builtin, Sem.run_bind, Sem.run_pure, Result.andThen_ok, List.map_toArray, List.map_cons, List.map_nil, e1, e2, hr]
    unfold Oper.wp
    rw [hex, Oper.upon_value, hd]
    have hel : (es.take k ++ es.drop j).length = k + (len - j) := by simp; omega
    have hmul : (k + (len - j)) * sz = k * sz + (len - j) * sz := Nat.add_mul _ _ _
    refine ⟨_, R, c, RSub.refl _, core_set h1 hi rfl rfl ⟨hok.1, fun z hz => ?_, xs.take (k * sz) ++ xs.drop (j * sz), ⟨?_, .inr ⟨g, cap, _, by rw [hel], Nat.zero_le _, setRow_heap w g _ _ e _ hgw, by rw [hel]; omega, hcm, ?_, ?_⟩⟩, ?_⟩ (setRow_grown w g _), env_put h2 (RSub.refl _) (by rw [h3]; exact Nat.blt_eq.mp hn) rfl, by rw [size_put]; exact h3, by rw [defers_put]; exact h4⟩
    · rcases List.mem_append.1 hz with hz | hz
      · exact hu z (List.mem_of_mem_take hz)
      · exact hu z (List.mem_of_mem_drop hz)
    · rw [hel, List.length_append, hvl, List.length_take, hxl, hmul]; omega
    · simp only [List.size_toArray, List.length_append, List.length_take, List.length_drop, Array.length_toList, hcs, hxl]; omega
    · rw [hel]
      show List.take ((k + (len - j)) * sz) (cur.toList.take (k * sz) ++ xs.drop (j * sz) ++ cur.toList.drop (k * sz + (xs.drop (j * sz)).length)) = _
      have hl2 : (cur.toList.take (k * sz) ++ xs.drop (j * sz)).length = (k + (len - j)) * sz := by rw [List.length_append, hvl, List.length_take, Array.length_toList, hcs, hmul]; omega
      rw [← hl2, List.take_left', ← htake, List.take_take, Nat.min_eq_left (by omega)]
      rfl
    · rw [List.flatten_append, flatten_take k hu, flatten_drop j hu]
      refine denC_append' ⟨by simp [hdc.1], fun i' u x hu' hx => ?_⟩ ⟨by simp [hdc.1], fun i' u x hu' hx => ?_⟩
      · by_cases hj' : i' < k * sz
        · rw [List.getElem?_take_of_lt hj'] at hu' hx; exact hdc.2 i' u x hu' hx
        · rw [List.getElem?_eq_none (by simp; omega)] at hu'; cases hu'
      · rw [List.getElem?_drop] at hu' hx; exact hdc.2 _ u x hu' hx
/-- clear of what lies behind the end. -/
theorem sq_vclear {ops : Array Oper} {rs : List Oper} {env : List (Nat × AV)} {K : AState → Prop} {t e : TypeId} {p : Operand} {z : Value} {sz g len cap lo hi : Nat} {es : List (List AV)} (i : Nat) (hg : o.guard = none) (ho : o.op = .call { callee := .builtin .clear, args := #[p], argTypes := #[t] }) (hd : o.dst = none)
    (ht : P.underlying t = some (.slice e)) (hz : ∀ w, (zeroValue e).run P w = .ok z w) (hzs : z.cells.size = sz) (h1z : z.cells.toList.all Value.oneCell' = true) (hpos : Nat.ble 1 sz = true) (hp : Ev (getv · env) p (AV.is (sliced (some ⟨g, 0, none⟩) lo hi cap sz))) (hi' : own[i]? = some (.arr (slv g len cap) e sz es)) (h1 : len ≤ lo) (h2 : lo ≤ hi) (h3 : hi ≤ cap)
    (c : ASeq P G n ops rs ⟨own, env⟩ K) : ASeq P G n ops (o :: rs) ⟨own, env⟩ K :=
  opS_run hg fun w0 R0 R a w ⟨h1', h2', h3', h4'⟩ => by
    have e1 : a.eval p = _ := ev_st (s := ⟨own, env⟩) (o := o) hp h2'
    have hok := h1'.owned _ (List.mem_of_getElem? hi')
    obtain ⟨hl, hlc, hcm, hu, cur, xs, hgw, hcs, htake, hxl, hdc⟩ := own_vals hok
    have hb1 := Nat.le_of_ble_eq_true hpos
    by_cases hlh : lo = hi
    · have hex : (execOp a.eval o).run P w = .ok (.value (.tuple #[])) w := by
        subst hlh
        simp only [execOp, ho, resolve, invoke, builtin, List.map_toArray, List.map_cons, List.map_nil, e1, sliced, Nat.sub_self, Sem.run_bind, Sem.run_pure, Result.andThen_ok]
        by_cases hc : cap = lo <;> simp [Builtin.clear_, run_underlying ht, hc]
      unfold Oper.wp
      rw [hex, Oper.upon_value, hd]
      exact ⟨_, R, c, RSub.refl _, h1', h2', h3', h4'⟩
    · obtain ⟨m, hm⟩ : ∃ m, hi - lo = m + 1 := ⟨hi - lo - 1, by omega⟩
      rw [sliced_tail (by omega) h3, hm] at e1
      have hlz := zeroCells_list z sz hzs (m + 1)
      have hone : ∀ u ∈ (Builtin.zeroCells z.cells (m + 1)).toList, u.oneCell' = true := fun u hu => by
        obtain ⟨j, hj⟩ := List.getElem?_of_mem hu
        rw [hlz.2 j u hj, getElem!_pos z.cells _ (by rw [hzs]; exact Nat.mod_lt _ (by omega))]
        exact List.all_eq_true.1 h1z _ (by simp)
      have hmul : lo * sz + (m + 1) * sz = hi * sz := by rw [← Nat.add_mul]; congr 1; omega
      have hmc : hi * sz ≤ cap * sz := Nat.mul_le_mul_right sz h3
      have hml : len * sz ≤ lo * sz := Nat.mul_le_mul_right sz h1
      have hst := run_storeCells_at (P := P) g (lo * sz) e (Builtin.zeroCells z.cells (m + 1)).toList 0 cur w hgw (by rw [hlz.1, hcs]; omega) hone
      simp only [Nat.add_zero, hlz.1] at hst
      have hex : (execOp a.eval o).run P w = .ok (.value (.tuple #[])) (w.setRow g (cur.toList.take (lo * sz) ++ (Builtin.zeroCells z.cells (m + 1)).toList ++ cur.toList.drop (lo * sz + (m + 1) * sz)).toArray) := by
        simp only [execOp, ho, resolve, invoke, builtin, List.map_toArray, List.map_cons, List.map_nil, e1, Sem.run_bind, Sem.run_pure, Result.andThen_ok]
        simp [Builtin.clear_, run_underlying ht, hz, hst]
      unfold Oper.wp
      rw [hex, Oper.upon_value, hd]
      have hset : own.set i (.arr (slv g len cap) e sz es) = own := by
        obtain ⟨hlt, heq⟩ := List.getElem?_eq_some_iff.1 hi'
        rw [← heq]; exact List.set_getElem_self hlt
      obtain ⟨cur', hcur'⟩ : ∃ cur' : Array Value, cur' = (cur.toList.take (lo * sz) ++ (Builtin.zeroCells z.cells (m + 1)).toList ++ cur.toList.drop (lo * sz + (m + 1) * sz)).toArray := ⟨_, rfl⟩
      have hs1 : cur'.size = cap * sz := by
        rw [hcur']; simp only [List.size_toArray, List.length_append, List.length_take, List.length_drop, hlz.1, Array.length_toList, hcs]; omega
      have hs2 : cur'.toList.take (len * sz) = xs := by
        rw [hcur', ← htake]
        show List.take (len * sz) (cur.toList.take (lo * sz) ++ (Builtin.zeroCells z.cells (m + 1)).toList ++ cur.toList.drop (lo * sz + (m + 1) * sz)) = _
        rw [List.append_assoc, List.take_append_of_le_length (by rw [List.length_take, Array.length_toList, hcs]; omega), List.take_take, Nat.min_eq_left hml]
      rw [← hcur']
      have hcore := core_set (y := .arr (slv g len cap) e sz es) h1' hi' rfl rfl ⟨hok.1, hu, xs, ⟨by rw [hxl, hl], .inr ⟨g, cap, cur', by rw [hl], Nat.zero_le _, setRow_heap w g _ _ e _ hgw, by rw [← hl]; exact hlc, hcm, hs1, by rw [← hl]; exact hs2⟩⟩, hdc⟩ (setRow_grown w g cur')
      rw [hset] at hcore
      exact ⟨_, R, c, RSub.refl _, hcore, h2', h3', h4'⟩
end
end Go.AV

set_option linter.unusedVariables false
set_option linter.unusedSimpArgs false
namespace Go.AV
open Go.RowKit (Below)
section
variable {P : Program} {G : Nat → Prop} {n : Nat} {own : List Own} {o : Oper} {E : EnvF}
theorem opE_append {ops : Array Oper} {t e : TypeId} {p q : Operand} {sz by' : Nat} {inf : TypeInfo} {z : Value} {v : Value} {es fs : List (List AV)} (i : Nat) (ho : o.op = .call { callee := .builtin .append, args := #[p, q], argTypes := #[t, t] }) (ht : P.underlying t = some (.slice e)) (hinf : P.info? e = some inf) (hz : inf.zero = some z) (hsz : inf.size = sz) (hby : inf.bytes = by') (hzs : z.cells.size = sz) (hpos : Nat.ble 1 sz = true) (hpos2 : Nat.ble 1 by' = true) (hp : Ev E p (AV.is v)) (hq : Ev E q (AV.list sz fs)) (hi : own[i]? = some (.arr v e sz es))
    (hlen : (es.length + fs.length) * by' ≤ 140737488355328) : OpE P G n own ops o E (fun _ : Value => True) (fun v' => own.set i (.arr v' e sz (es ++ fs))) (fun v' => AV.is v') :=
  fun w0 R0 R a w h1 h3 h2 => by
    have e1 : a.eval p = v := ev_lookA (ops := ops) hp (by simp [ho, Op.operands, Call.operands]) h2
    obtain ⟨oa, c, e2, hc1, hc2, hu, hcell⟩ := ev_lookA (ops := ops) hq (by simp [ho, Op.operands, Call.operands]) h2
    obtain ⟨hR, hue, xs, hown, hdc⟩ := h1.owned _ (List.mem_of_getElem? hi)
    have hb1 := Nat.le_of_ble_eq_true hpos
    have hb2 := Nat.le_of_ble_eq_true hpos2
    have hsum : es.length + fs.length ≤ 140737488355328 := Nat.le_trans (Nat.le_mul_of_pos_right _ hb2) hlen
    have hufs : ∀ x ∈ es ++ fs, x.length = sz := fun x hx => by
      rcases List.mem_append.1 hx with h | h
      · exact hue x h
      · exact hu x h
    by_cases hfs : fs = []
    · subst hfs
      have hrun : ∃ v', (Builtin.append_ #[t, t] o.type #[v, a.eval q]).run P w = .ok v' w ∧ v' = v := by
        refine ⟨v, ?_, rfl⟩
        rw [e2]
        rcases hown.2 with ⟨rfl, hz0⟩ | ⟨g, cap, cur, rfl, _, _, hnc, _⟩
        · cases oa with
          | none => simp [Builtin.append_, run_underlying ht, sizeOf, typeInfo, hinf, Builtin.lenOf, Builtin.firstCells, hz0]
          | some ad => simp [Builtin.append_, run_underlying ht, sizeOf, typeInfo, hinf, Builtin.lenOf, Builtin.firstCells, loadCells, loadCellsFrom, hz0]
        · cases oa with
          | none => simp [Builtin.append_, run_underlying ht, sizeOf, typeInfo, hinf, Builtin.lenOf, Builtin.firstCells, hnc, storeCells]
          | some ad => simp [Builtin.append_, run_underlying ht, sizeOf, typeInfo, hinf, Builtin.lenOf, Builtin.firstCells, loadCells, loadCellsFrom, hnc, storeCells]
      obtain ⟨v', hr, rfl⟩ := hrun
      have hex : (execOp a.eval o).run P w = .ok (.value v') w := by
        simp only [execOp, ho, resolve, invoke, builtin, Sem.run_bind, Sem.run_pure, Result.andThen_ok, List.map_toArray, List.map_cons, List.map_nil, e1, hr]
      unfold Oper.wp
      rw [hex, Oper.upon_value]
      have hset : own.set i (.arr v' e sz (es ++ [])) = own := by
        rw [List.append_nil]
        obtain ⟨hlt, he⟩ := List.getElem?_eq_some_iff.1 hi
        rw [← he]; exact List.set_getElem_self hlt
      exact ⟨v', v', R, trivial, rfl, by show Core G w0 R0 (own.set i (.arr v' e sz (es ++ []))) R w; rw [hset]; exact h1, RSub.refl _, rfl⟩
    · obtain ⟨ad, rfl, hca⟩ := hcell hfs
      obtain ⟨ns, hn1, hn2, hn3⟩ := list_cells (sz := sz) h1.rle hca
      have hnl : ns.length = fs.length * sz := by rw [hn1, flatten_len hu]
      have hone : ∀ u ∈ ns, u.oneCell' = true := fun u hm => by
        obtain ⟨j, hj⟩ := List.getElem?_of_mem hm
        have hjl : j < fs.flatten.length := by rw [← hn1]; exact (List.getElem?_eq_some_iff.1 hj).1
        exact (hn3.2 j u _ hj (List.getElem?_eq_getElem hjl)).2
      obtain ⟨v', w', hr, hown', hgr, _, hblk⟩ := run_append_own_at (P := P) w 0 t o.type e inf z sz by' ht hinf hz hsz hby hzs hb1 v es.length xs hown ad fs.length c ns hnl hn2 hone (by unfold maxLen; omega) hlen (Nat.zero_le _)
      have hex : (execOp a.eval o).run P w = .ok (.value v') w' := by
        simp only [execOp, ho, resolve, invoke, builtin, Sem.run_bind, Sem.run_pure, Result.andThen_ok, List.map_toArray, List.map_cons, List.map_nil, e1, e2, hr]
      unfold Oper.wp
      rw [hex, Oper.upon_value]
      refine ⟨v', v', R, trivial, rfl, core_repl h1 hi (fun b hb => ?_) ⟨fun b hb => ?_, hufs, xs ++ ns, ?_, ?_⟩ hgr, RSub.refl _, rfl⟩
      · simp only [Own.blk] at hb ⊢
        rcases hblk with h | h
        · exact .inl (by rw [← h]; exact hb)
        · rw [hb] at h; injection h with h; exact .inr h
      · rcases hblk with h | h
        · exact hR b (by rw [← h]; exact hb)
        · rw [hb] at h; injection h with h; subst h; exact rle_none h1.rle
      · rw [List.length_append]; exact hown'
      · rw [List.flatten_append]; exact denC_append' hdc hn3

theorem opE_empty {ops : Array Oper} {t e : TypeId} {sz : Nat} (ho : o.op = .buildSlice t 0 #[]) (ht : P.underlying t = some (.slice e)) (hs : ∀ w, (sizeOf e).run P w = .ok sz w)
    : OpE P G n own ops o E (fun _ : Value => True) (fun v' => own ++ [.arr v' e sz []]) (fun v' => AV.is v') :=
  fun w0 R0 R a w h1 h3 h2 => by
    have hex : (execOp a.eval o).run P w = .ok (.value (.slice (some ⟨w.heap.size, 0, none⟩) 0 0)) (w.alloc (.cells #[] e)) := by
      simp [execOp, ho, Instr.buildSlice, run_underlying ht, hs, newRow, Instr.fill, go_sem]
    unfold Oper.wp
    rw [hex, Oper.upon_value]
    exact ⟨_, _, R, trivial, rfl, core_perm (core_arr_new h1 rfl (Nat.le_refl _) (Nat.zero_le _) (by simp) (fun x hx => by simp at hx) ⟨by simp, fun i v x h => by simp at h⟩) (List.perm_append_comm (l₁ := [_])), RSub.refl _, rfl⟩

theorem opE_bslice {ops : Array Oper} {t e : TypeId} {len sz : Nat} {z : Value} {ps : Array (Nat × Operand)} {asl : List (Nat × List AV)} {cs : List AV} {es : List (List AV)} (ho : o.op = .buildSlice t len ps) (ht : P.underlying t = some (.slice e)) (hsz : ∀ w, (sizeOf e).run P w = .ok sz w) (hz : ∀ w, (zeroValue e).run P w = .ok z w)
    (hl : Nat.ble (len * sz) 1000 = true) (hl2 : Nat.ble len 1000 = true) (hzs : z.cells.size = sz) (h1' : z.cells.toList.all Value.oneCell' = true) (hp : EvP E ps.toList asl) (hc : afill (fun i => some (i * sz, sz)) ((List.range (len * sz)).map fun i => zeroA (z.cells[i % z.cells.size]!)) asl = some cs) (hes : chunks sz len cs = es)
    : OpE P G n own ops o E (fun _ : Value => True) (fun v' => own ++ [.arr v' e sz es]) (fun v' => AV.is v') :=
  fun w0 R0 R a w h1 h3 h2 => by
    obtain ⟨k1, k2⟩ := evp_use (o := o) (fun t ht => h2 t (looks_tmps ht)) hp fun p hpm => by simp [ho, Op.operands]; exact ⟨p.1, by simpa using hpm⟩
    have hone : ∀ i, i < len * sz → (z.cells[i % z.cells.size]!).oneCell' = true := fun i hi => by
      have hpos : 0 < z.cells.size := by
        rw [hzs]
        rcases Nat.eq_zero_or_pos sz with h0 | h0
        · subst h0; simp at hi
        · exact h0
      rw [getElem!_pos z.cells _ (Nat.mod_lt _ hpos)]
      exact List.all_eq_true.1 h1' _ (by simp)
    obtain ⟨cells', f2, f3⟩ := fill_den (R := R) (place := fun i => some (i * sz, sz)) _ asl ((Array.range (len * sz)).map fun i => z.cells[i % z.cells.size]!) _ cs ⟨by simp, fun i v y hv hy => by
      rw [Array.toList_map, List.getElem?_map, Array.toList_range] at hv
      rw [List.getElem?_map] at hy
      by_cases hi : i < len * sz
      · rw [List.getElem?_range hi] at hv hy
        simp only [Option.map_some, Option.some.injEq] at hv hy
        rw [← hv, ← hy]
        exact ⟨zeroA_den R _, hone i hi⟩
      · rw [List.getElem?_eq_none (by simp; omega)] at hv; cases hv⟩ k1 k2 hc
    have hlen := Nat.le_of_ble_eq_true hl
    have h5 : cells'.toList.length = len * sz := by
      rw [f3.1, afill_len asl _ cs hc]; simp
    have hch := chunks_flat sz len cs (by rw [← f3.1]; exact h5)
    have h6 : (ps.map fun (i, x) => (i, a.eval x)).toList = ps.toList.map fun p => (p.1, a.eval p.2) := by simp
    have hrun : (execOp a.eval o).run P w = .ok (.value (.slice (some ⟨w.heap.size, 0, none⟩) len len)) (w.alloc (.cells cells' e)) := by
      have hcap : ¬ (len * sz > 2 ^ 24) := by omega
      by_cases h0 : len * sz = 0
      · have h7 : (Array.range (len * sz)).map (fun x => (#[] : Array Value)[x % (#[] : Array Value).size]!) = (Array.range (len * sz)).map fun i => z.cells[i % z.cells.size]! := by rw [h0]; simp
        rw [← h7] at f2
        simp only [execOp, ho, Instr.buildSlice, run_underlying ht, hsz, hcap, if_false, Sem.run_bind, Sem.run_pure, Result.andThen_ok, Sem.run_ite, if_pos h0, h6, f2, newRow, run_newObj, World.alloc_eq]
      · simp only [execOp, ho, Instr.buildSlice, run_underlying ht, hsz, hcap, if_false, Sem.run_bind, Sem.run_pure, Result.andThen_ok, Sem.run_ite, if_neg h0, hz, h6, f2, newRow, run_newObj, World.alloc_eq]
    unfold Oper.wp
    rw [hrun, Oper.upon_value]
    have hlz : es.length = len := by rw [← hes, chunks_len]
    refine ⟨_, _, R, trivial, rfl, core_perm (core_arr_new (sz := sz) (m := len) (cap := len) (es := es) h1 hlz (Nat.le_refl _) (by have := Nat.le_of_ble_eq_true hl2; unfold maxLen; omega) (by rw [← Array.length_toList]; exact h5) (by rw [← hes]; exact hch.2) ?_) (List.perm_append_comm (l₁ := [_])), RSub.refl _, rfl⟩
    rw [List.take_of_length_le (by rw [h5]; exact Nat.le_refl _), ← hes, hch.1]
    exact f3
/-- append of what a copy may read, onto an array of the call's own. -/
theorem sq_appendS {ops : Array Oper} {rest : List Oper} {env : List (Nat × AV)} {K : AState → Prop} {t e : TypeId} {p q : Operand} {d sz by' : Nat} {inf : TypeInfo} {z : Value} {v : Value} {es fs : List (List AV)} (i : Nat) (hg : o.guard = none) (ho : o.op = .call { callee := .builtin .append, args := #[p, q], argTypes := #[t, t] }) (hd : o.dst = some d) (hn : Nat.blt d n = true)
    (ht : P.underlying t = some (.slice e)) (hinf : P.info? e = some inf) (hz : inf.zero = some z) (hsz : inf.size = sz) (hby : inf.bytes = by') (hzs : z.cells.size = sz) (hpos : Nat.ble 1 sz = true) (hpos2 : Nat.ble 1 by' = true) (hp : Ev (getv · env) p (AV.is v)) (hq : SrcIs own (getv · env) q sz fs) (hne : fs ≠ []) (hi : own[i]? = some (.arr v e sz es))
    (hlen : (es.length + fs.length) * by' ≤ 140737488355328) (k : ∀ v', ASeq P G n ops rest ⟨own.set i (.arr v' e sz (es ++ fs)), (d, AV.is v') :: env⟩ K) : ASeq P G n ops (o :: rest) ⟨own, env⟩ K :=
  opS_run hg fun w0 R0 R a w ⟨h1, h2, h3, h4⟩ => by
    have e1 : a.eval p = v := ev_st (s := ⟨own, env⟩) (o := o) hp h2
    obtain ⟨hu, hsrc⟩ := hq G w0 R0 R a w h1 (fun t _ y hy => h2 t y hy)
    obtain ⟨ad, c, ns, e2, hn2, hn3⟩ := hsrc hne
    obtain ⟨hR, hue, xs, hown, hdc⟩ := h1.owned _ (List.mem_of_getElem? hi)
    have hb1 := Nat.le_of_ble_eq_true hpos
    have hb2 := Nat.le_of_ble_eq_true hpos2
    have hsum : es.length + fs.length ≤ 140737488355328 := Nat.le_trans (Nat.le_mul_of_pos_right _ hb2) hlen
    have hufs : ∀ x ∈ es ++ fs, x.length = sz := fun x hx => by
      rcases List.mem_append.1 hx with h | h
      · exact hue x h
      · exact hu x h
    have hnl : ns.length = fs.length * sz := by rw [hn3.1, flatten_len hu]
    have hone : ∀ u ∈ ns, u.oneCell' = true := fun u hm => by
      obtain ⟨j, hj⟩ := List.getElem?_of_mem hm
      have hjl : j < fs.flatten.length := by rw [← hn3.1]; exact (List.getElem?_eq_some_iff.1 hj).1
      exact (hn3.2 j u _ hj (List.getElem?_eq_getElem hjl)).2
    obtain ⟨v', w', hr, hown', hgr, _, hblk⟩ := run_append_own_at (P := P) w 0 t o.type e inf z sz by' ht hinf hz hsz hby hzs hb1 v es.length xs hown ad fs.length c ns hnl hn2 hone (by unfold maxLen; omega) hlen (Nat.zero_le _)
    have hex : (execOp a.eval o).run P w = .ok (.value v') w' := by
      simp only [execOp, ho, resolve, invoke, builtin, Sem.run_bind, Sem.run_pure, Result.andThen_ok, List.map_toArray, List.map_cons, List.map_nil, e1, e2, hr]
    unfold Oper.wp
    rw [hex, Oper.upon_value, hd]
    refine ⟨_, R, k v', RSub.refl _, core_repl h1 hi (fun b hb => ?_) ⟨fun b hb => ?_, hufs, xs ++ ns, ?_, ?_⟩ hgr, env_put h2 (RSub.refl _) (by rw [h3]; exact Nat.blt_eq.mp hn) rfl, by rw [size_put]; exact h3, by rw [defers_put]; exact h4⟩
    · simp only [Own.blk] at hb ⊢
      rcases hblk with h | h
      · exact .inl (by rw [← h]; exact hb)
      · rw [hb] at h; injection h with h; exact .inr h
    · rcases hblk with h | h
      · exact hR b (by rw [← h]; exact hb)
      · rw [hb] at h; injection h with h; subst h; exact rle_none h1.rle
    · rw [List.length_append]; exact hown'
    · rw [List.flatten_append]; exact denC_append' hdc hn3
/-- A call of a function value that captures one variable of the caller's. -/
theorem w_callclo {f : FuncId} {args : Array Operand} {tys : Array TypeId} {p : Operand} {ps : List Operand} {xs cs : List AV} {y : AV} {b : Nat} {t : TypeId} (i : Nat) (ho : o.op = .call { callee := .value p, args := args, argTypes := tys }) (hc : ∀ (vs : Array Value) (w : World), (callFunc f vs).run P w = .ok (.enter f vs) w)
    (hp : Ev E p (AV.clo f [AV.ptr b 0])) (hi : own[i]? = some (.box b t cs)) (hps : args.toList = ps) (hs : FSpec P f (xs ++ [AV.eptr cs]) y) (hy : Flat y) (he : EvLB own E ps xs) : OpW P G n own o E y := fun w0 R0 R a w hcore _ hen => by
  have hd := evlb_use hcore hen he fun p hp => by simp [ho, Op.operands, Call.operands]; right; rw [← hps] at hp; exact Array.mem_toList_iff.1 hp
  obtain ⟨cv, e1, hcd⟩ := ev_use hp (by simp [ho, Op.operands, Call.operands]) hen
  obtain ⟨v, rfl⟩ : ∃ v, cv = [v] := by
    match cv, hcd.1 with
    | [v], _ => exact ⟨v, rfl⟩
  have hv : v = .pointer (some ⟨b, 0, none⟩) := hcd.2 0 v _ rfl rfl
  have hargs : args.map a.eval = (ps.map a.eval).toArray := by rw [← hps]; cases args; simp
  have hrun : (execOp a.eval o).run P w = .ok (.enter f (ps.map a.eval ++ [v]).toArray) w := by
    simp only [execOp, ho, resolve, hargs, e1]
    simp [Deferred.ofValue, invoke, hc]
  unfold Oper.wp
  rw [hrun, Oper.upon_enter]
  have hden : DenV (lend own w R) (ps.map a.eval ++ [v]) (xs ++ [AV.eptr cs]) := ⟨by simp [hd.1], fun j u x hu hx => by
    by_cases hj : j < (ps.map a.eval).length
    · rw [List.getElem?_append_left hj] at hu
      rw [List.getElem?_append_left (by rw [← hd.1]; exact hj)] at hx
      exact hd.2 j u x hu hx
    · rw [List.getElem?_append_right (by omega)] at hu
      rw [List.getElem?_append_right (by rw [← hd.1]; omega), ← hd.1] at hx
      have hj0 : j - (ps.map a.eval).length = 0 := by have := (List.getElem?_eq_some_iff.1 hu).1; simp at this; simp; omega
      rw [hj0] at hu hx
      simp at hu hx; subst hu; subst hx
      rw [hv]
      exact ptr_eptr hcore i hi⟩
  refine (hs (lend own w R) w _ (lend_le hcore) hden).mono fun e w' ⟨v, R', e1, e2, e3, e4, e5⟩ => ?_
  subst e1
  have hR2 : ∀ b, b < w.heap.size → (fun b => bif ownB own b then none else R' b) b = R b := fun b hb => by
    cases hob : ownB own b with
    | true =>
      obtain ⟨x, hx, hxb⟩ := ownB_true hob
      show (bif ownB own b then none else R' b) = R b
      rw [hob, cond_true]; exact (Own.ok_blk (hcore.owned x hx) hxb).1.symm
    | false =>
      show (bif ownB own b then none else R' b) = R b
      rw [hob, cond_false, e4 b hb]
      unfold lend
      rw [hob, cond_false]
  refine ⟨v, (fun b => bif ownB own b then none else R' b), rfl, hcore.step e5 (fun b x hx => ?_) hR2, rsub_of hcore.rle hR2, hy _ _ _ e2⟩
  cases hob : ownB own b with
  | true => simp [hob] at hx
  | false => exact e3 b x (by simpa [hob] using hx)
end
end Go.AV

set_option linter.unusedVariables false
namespace Go.M
open Go.AV
abbrev Str := List UInt8
@[reducible] def strs (l : List Str) : AV := AV.list 1 (l.map fun s => [AV.str s])
@[reducible] def ints (l : List Int) : AV := AV.list 1 (l.map fun s => [AV.int s])
/-- What a law counts down, and what is left. -/
def sizeL {α : Type} (f : α → Nat) (l : List α) : Nat := l.length + (l.map f).sum
def szR (n : Nat) (left : Int) : Int := if left < n then -1 else left - n
theorem sum_take {α : Type} (f : α → Nat) : ∀ (l : List α) (i : Nat) (x : α), l[i]? = some x → ((l.take (i + 1)).map f).sum = ((l.take i).map f).sum + f x
  | [], i, x, h => by simp at h
  | y :: l, 0, x, h => by simp at h; subst h; simp
  | y :: l, i + 1, x, h => by
    have := sum_take f l i x (by simpa using h)
    simp only [List.take_succ_cons, List.map_cons, List.sum_cons, this]; omega
theorem sum_le {α : Type} (f : α → Nat) : ∀ (l : List α) (i : Nat) (x : α), l[i]? = some x → ((l.take i).map f).sum + f x ≤ (l.map f).sum
  | [], i, x, h => by simp at h
  | y :: l, 0, x, h => by simp at h; subst h; simp
  | y :: l, i + 1, x, h => by
    have := sum_le f l i x (by simpa using h)
    simp only [List.take_succ_cons, List.map_cons, List.sum_cons]; omega
theorem sizeL_mem {α : Type} {f : α → Nat} {l : List α} {x : α} (h : x ∈ l) : f x ≤ sizeL f l := by
  obtain ⟨i, hi⟩ := List.getElem?_of_mem h
  have := sum_le f l i x hi
  unfold sizeL; omega
theorem sizeL_len {α : Type} {f : α → Nat} {l : List α} : l.length ≤ sizeL f l := by unfold sizeL; omega
theorem sizeL_get {α : Type} {f : α → Nat} {l : List α} {i : Nat} {x : α} (h : l[i]? = some x) : f x ≤ sizeL f l := sizeL_mem (List.mem_of_getElem? h)
theorem take_eq_of {α : Type} {a b : List α} {i : Nat} (hl : a.length = b.length) (h : a.take i = b.take i) (hi : a.length ≤ i) : a = b := by
  rwa [List.take_of_length_le hi, List.take_of_length_le (by omega)] at h
theorem take_eq_succ {α : Type} {a b : List α} {i : Nat} {x : α} (h : a.take i = b.take i) (ha : a[i]? = some x) (hb : b[i]? = some x) : a.take (i + 1) = b.take (i + 1) := by
  rw [List.take_add_one, List.take_add_one, h, ha, hb]
theorem get_any {α : Type} [Inhabited α] (l : List α) (i : Nat) : ∃ y, i < l.length → l[i]? = some y := ⟨l[i]?.getD default, fun h => by rw [List.getElem?_eq_getElem h]; rfl⟩
theorem del_keep {α : Type} {p : α → Bool} {l m : List α} {i j : Nat} {x : α} (hm : m.length = l.length) (hij : i ≤ j) (hx : l[j]? = some x) (h1 : m.take i = (l.take j).filter p) (h2 : m.drop j = l.drop j) (hp : p x = true) : (m.set i x).take (i + 1) = (l.take (j + 1)).filter p ∧ (m.set i x).drop (j + 1) = l.drop (j + 1) ∧ (m.set i x).length = l.length := by
  have hj : j < l.length := (List.getElem?_eq_some_iff.1 hx).1
  refine ⟨?_, ?_, by simp [hm]⟩
  · rw [List.take_add_one, List.take_add_one, hx, List.filter_append, ← h1, List.take_set_of_le (Nat.le_refl _), List.getElem?_set_self (by omega)]
    simp [hp]
  · rw [List.drop_set_of_lt (by omega)]
    have := congrArg (List.drop 1) h2
    simpa [List.drop_drop] using this
theorem del_skip {α : Type} {p : α → Bool} {l m : List α} {i j : Nat} {x : α} (hx : l[j]? = some x) (h1 : m.take i = (l.take j).filter p) (h2 : m.drop j = l.drop j) (hp : p x = false) : m.take i = (l.take (j + 1)).filter p ∧ m.drop (j + 1) = l.drop (j + 1) := by
  refine ⟨?_, ?_⟩
  · rw [List.take_add_one, hx, List.filter_append, ← h1]; simp [hp]
  · have := congrArg (List.drop 1) h2
    simpa [List.drop_drop] using this
/-- Where a search by halves ends: the first place whose element is not below. -/
def bs {α : Type} (f : α → Int) (l : List α) (i j : Nat) : Nat :=
  if i < j then
    match l[(i + j) / 2]? with
    | some x => if f x < 0 then bs f l ((i + j) / 2 + 1) j else bs f l i ((i + j) / 2)
    | none => i
  else i
termination_by j - i
def bsAt {α : Type} (f : α → Int) (l : List α) (n : Nat) : Bool :=
  match l[n]? with
  | some x => f x == 0
  | none => false
theorem bs_lo {α : Type} {f : α → Int} {l : List α} {i j : Nat} {x : α} (h : i < j) (hx : l[(i + j) / 2]? = some x) (hf : f x < 0) : bs f l i j = bs f l ((i + j) / 2 + 1) j := by
  rw [bs, if_pos h, hx]; simp only [hf, if_true]
theorem bs_hi {α : Type} {f : α → Int} {l : List α} {i j : Nat} {x : α} (h : i < j) (hx : l[(i + j) / 2]? = some x) (hf : ¬ f x < 0) : bs f l i j = bs f l i ((i + j) / 2) := by
  rw [bs, if_pos h, hx]; simp only [hf, if_false]
theorem bs_end {α : Type} {f : α → Int} {l : List α} {i j : Nat} (h : ¬ i < j) : bs f l i j = i := by rw [bs, if_neg h]
theorem half_eq {i j : Nat} (h : i + j ≤ 9223372036854775807) : IntKind.i64.wrap (IntKind.u64.wrap ((i : Int) + (j : Int)) / 2 ^ ((1 : Int).toNat)) = ((i + j) / 2 : Nat) := by
  have h1 : IntKind.u64.wrap ((i : Int) + (j : Int)) = (i : Int) + (j : Int) := by simp only [IntKind.wrap, IntKind.bits, IntKind.signed]; simp; omega
  rw [h1]
  have h2 : ((i : Int) + (j : Int)) / 2 ^ ((1 : Int).toNat) = (((i + j) / 2 : Nat) : Int) := by
    show ((i : Int) + (j : Int)) / 2 = _
    omega
  rw [h2]
  exact in64 (by omega)
def idxFrom {α : Type} (p : α → Bool) : List α → Int → Int
  | [], _ => -1
  | x :: xs, k => if p x then k else idxFrom p xs (k + 1)
theorem idxFrom_any {α : Type} (p : α → Bool) : ∀ (l : List α) (k : Int), 0 ≤ k → decide (0 ≤ idxFrom p l k) = l.any p
  | [], _, _ => rfl
  | x :: xs, k, h => by
    unfold idxFrom
    cases hp : p x with
    | true => simp [hp]; exact h
    | false => simp [hp, idxFrom_any p xs (k + 1) (by omega)]
theorem idxFrom_spec {α : Type} (f : α → Bool) : ∀ (l : List α) (k : Nat), (idxFrom f l k = -1 ∧ l.filter (fun x => !f x) = l) ∨ ∃ n x, idxFrom f l k = ((k + n : Nat) : Int) ∧ l[n]? = some x ∧ l.take n = (l.take (n + 1)).filter (fun x => !f x)
  | [], k => .inl ⟨rfl, rfl⟩
  | x :: l, k => by
    unfold idxFrom
    cases hf : f x with
    | true => exact .inr ⟨0, x, by simp, rfl, by simp [hf]⟩
    | false =>
      have hk : (k : Int) + 1 = ((k + 1 : Nat) : Int) := by omega
      rw [hk]
      rcases idxFrom_spec f l (k + 1) with ⟨h1, h2⟩ | ⟨n, y, h1, h2, h3⟩
      · exact .inl ⟨by simpa using h1, by simp [hf, h2]⟩
      · refine .inr ⟨n + 1, y, ?_, by simpa using h2, ?_⟩
        · simp only [Bool.false_eq_true, if_false, h1]; omega
        · rw [List.take_succ_cons, List.take_succ_cons, List.filter_cons, hf]
          simp only [Bool.not_false, if_true, ← h3]
theorem ins_grow {α β : Type} {f : α → β} {l : List α} {x : α} {i : Nat} {Z : List β} (hi : i ≤ l.length) (hZ : Z.length = l.length + 1 - i) : (l.take i ++ x :: l.drop i).map f =
    ((((l.map f).take i ++ Z).take i ++ [f x] ++ ((l.map f).take i ++ Z).drop (i + [f x].length)).take (i + 1) ++ (l.map f).drop i ++ (((l.map f).take i ++ Z).take i ++ [f x] ++ ((l.map f).take i ++ Z).drop (i + [f x].length)).drop (i + 1 + ((l.map f).drop i).length)) := by
  have h1 : ((l.map f).take i).length = i := by simp; omega
  have hA : ((l.map f).take i ++ Z).take i = (l.map f).take i := List.take_left' h1
  have h2 : ((l.map f).take i ++ [f x]).length = i + 1 := by simp; omega
  rw [hA, List.take_left' h2]
  have hB : ((l.map f).take i ++ [f x] ++ ((l.map f).take i ++ Z).drop (i + [f x].length)).length ≤ i + 1 + ((l.map f).drop i).length := by
    simp only [List.length_append, List.length_take, List.length_map, List.length_cons, List.length_nil, List.length_drop, hZ]; omega
  rw [List.drop_eq_nil_of_le hB]
  simp [List.map_take, List.map_drop]
theorem ins_shift {α β : Type} {f : α → β} {l : List α} {x : α} {i : Nat} (hi : i < l.length) : (l.take i ++ x :: l.drop i).map f =
    ((l.map f).take (i + 1) ++ (l.map f).drop i).take i ++ [f x] ++ ((l.map f).take (i + 1) ++ (l.map f).drop i).drop (i + [f x].length) := by
  have h1 : ((l.map f).take (i + 1)).length = i + 1 := by simp; omega
  rw [List.take_append_of_le_length (by omega), List.take_take, Nat.min_eq_left (by omega), show i + [f x].length = i + 1 from rfl, List.drop_left' h1]
  simp [List.map_take, List.map_drop]
theorem filt_keep {α : Type} {p : α → Bool} {cs : α → List AV} {l : List α} {i : Nat} {x : α} (hx : l[i]? = some x) (hp : p x = true) : ((l.take i).filter p).map cs ++ [cs x] = ((l.take (i + 1)).filter p).map cs := by
  rw [List.take_add_one, hx, List.filter_append, List.map_append]; simp [hp]
theorem filt_skip {α : Type} {p : α → Bool} {cs : α → List AV} {l : List α} {i : Nat} {x : α} (hx : l[i]? = some x) (hp : p x = false) : ((l.take i).filter p).map cs = ((l.take (i + 1)).filter p).map cs := by
  rw [List.take_add_one, hx, List.filter_append, List.map_append]; simp [hp]
theorem drop_eq_get {α : Type} {m l : List α} {j : Nat} {x : α} (h : m.drop j = l.drop j) (hx : l[j]? = some x) : m[j]? = some x := by
  have h1 : (m.drop j)[0]? = (l.drop j)[0]? := by rw [h]
  simpa [hx] using h1
theorem del_end {α : Type} {p : α → Bool} {cs : α → List AV} {l m : List α} {i j k : Nat} {z : List AV} (h1 : m.take i = (l.take j).filter p) (h2 : l.length ≤ j) (h3 : i ≤ m.length) : ((m.map cs).take i ++ List.replicate k z).take i = (l.filter p).map cs := by
  rw [List.take_left' (by simp; omega), ← List.map_take, h1, List.take_of_length_le h2]
structure TClock where
  Off : Int
deriving DecidableEq, Inhabited
def TClock.cs (c : TClock) : List AV := [AV.int c.Off]
theorem TClock.flat (c : TClock) : ∀ x ∈ c.cs, Flat x := (flatl_cons (flat_ik _ _) flatl_nil)
def TClock.size (c : TClock) : Nat := 0
structure TLease where
  Who : Int
  From : Int
  Until : Int
deriving DecidableEq, Inhabited
def TLease.cs (c : TLease) : List AV := [AV.int c.Who, AV.int c.From, AV.int c.Until]
theorem TLease.flat (c : TLease) : ∀ x ∈ c.cs, Flat x := (flatl_cons (flat_ik _ _) (flatl_cons (flat_ik _ _) (flatl_cons (flat_ik _ _) flatl_nil)))
def TLease.size (c : TLease) : Nat := 0
structure TWatch where
  True : Int
  Clocks : List TClock
  Given : List TLease
deriving DecidableEq, Inhabited
def TWatch.cs (c : TWatch) : List AV := [AV.int c.True, AV.list 1 (c.Clocks.map TClock.cs), AV.list 3 (c.Given.map TLease.cs)]
def TWatch.size (c : TWatch) : Nat := c.Clocks.length + c.Given.length
structure TWatchAct where
  Kind : Int
  Who : Int
  By : Int
deriving DecidableEq, Inhabited
def TWatchAct.cs (c : TWatchAct) : List AV := [AV.int c.Kind, AV.int c.Who, AV.int c.By]
theorem TWatchAct.flat (c : TWatchAct) : ∀ x ∈ c.cs, Flat x := (flatl_cons (flat_ik _ _) (flatl_cons (flat_ik _ _) (flatl_cons (flat_ik _ _) flatl_nil)))
def TWatchAct.size (c : TWatchAct) : Nat := 0
structure TWrite where
  Key : Str
  Val : Str
  Gone : Bool
deriving DecidableEq, Inhabited
def TWrite.cs (c : TWrite) : List AV := [AV.str c.Key, AV.str c.Val, AV.bool c.Gone]
theorem TWrite.flat (c : TWrite) : ∀ x ∈ c.cs, Flat x := (flatl_cons (flat_str _) (flatl_cons (flat_str _) (flatl_cons (flat_bool _) flatl_nil)))
def TWrite.size (c : TWrite) : Nat := c.Key.length + c.Val.length
def TWrite.ok (c : TWrite) : Prop := c.Key.length ≤ 9223372036854775807 ∧ c.Val.length ≤ 9223372036854775807
structure TRec where
  Kind : Int
  Txn : Int
  Time : Int
  Lead : Int
  Reads : List Str
  Writes : List TWrite
  Yes : Bool
deriving DecidableEq, Inhabited
def TRec.cs (c : TRec) : List AV := [AV.int c.Kind, AV.int c.Txn, AV.int c.Time, AV.int c.Lead, strs c.Reads, AV.list 3 (c.Writes.map TWrite.cs), AV.bool c.Yes]
def TRec.size (c : TRec) : Nat := sizeL (fun x => x.length) c.Reads + sizeL TWrite.size c.Writes
def TRec.ok (c : TRec) : Prop := (∀ x ∈ c.Reads, x.length ≤ 9223372036854775807) ∧ (∀ x ∈ c.Writes, x.ok)
structure TEntry where
  Term : Int
  Rec : TRec
deriving DecidableEq, Inhabited
def TEntry.cs (c : TEntry) : List AV := [AV.int c.Term, AV.int c.Rec.Kind, AV.int c.Rec.Txn, AV.int c.Rec.Time, AV.int c.Rec.Lead, strs c.Rec.Reads, AV.list 3 (c.Rec.Writes.map TWrite.cs), AV.bool c.Rec.Yes]
def TEntry.size (c : TEntry) : Nat := c.Rec.size
def TEntry.ok (c : TEntry) : Prop := c.Rec.ok
structure TDisk where
  Kept : Str
  Loose : Str
deriving DecidableEq, Inhabited
def TDisk.cs (c : TDisk) : List AV := [AV.str c.Kept, AV.str c.Loose]
theorem TDisk.flat (c : TDisk) : ∀ x ∈ c.cs, Flat x := (flatl_cons (flat_str _) (flatl_cons (flat_str _) flatl_nil))
def TDisk.size (c : TDisk) : Nat := c.Kept.length + c.Loose.length
def TDisk.ok (c : TDisk) : Prop := c.Kept.length ≤ 9223372036854775807 ∧ c.Loose.length ≤ 9223372036854775807
structure TReplica where
  Up : Bool
  Log : List TEntry
  Sure : Int
deriving DecidableEq, Inhabited
def TReplica.cs (c : TReplica) : List AV := [AV.bool c.Up, AV.list 8 (c.Log.map TEntry.cs), AV.int c.Sure]
def TReplica.size (c : TReplica) : Nat := sizeL TEntry.size c.Log
def TReplica.ok (c : TReplica) : Prop := (∀ x ∈ c.Log, x.ok)
structure TGroup where
  Reps : List TReplica
  Term : Int
  Lead : Int
deriving DecidableEq, Inhabited
def TGroup.cs (c : TGroup) : List AV := [AV.list 3 (c.Reps.map TReplica.cs), AV.int c.Term, AV.int c.Lead]
def TGroup.size (c : TGroup) : Nat := sizeL TReplica.size c.Reps
def TGroup.ok (c : TGroup) : Prop := (∀ x ∈ c.Reps, x.ok)
structure THouse where
  Group : TGroup
  Disks : List TDisk
deriving DecidableEq, Inhabited
def THouse.cs (c : THouse) : List AV := [AV.list 3 (c.Group.Reps.map TReplica.cs), AV.int c.Group.Term, AV.int c.Group.Lead, AV.list 2 (c.Disks.map TDisk.cs)]
def THouse.size (c : THouse) : Nat := c.Group.size + sizeL TDisk.size c.Disks
def THouse.ok (c : THouse) : Prop := c.Group.ok ∧ (∀ x ∈ c.Disks, x.ok)
structure TGroupAct where
  Kind : Int
  Rep : Int
  Rec : TRec
deriving DecidableEq, Inhabited
def TGroupAct.cs (c : TGroupAct) : List AV := [AV.int c.Kind, AV.int c.Rep, AV.int c.Rec.Kind, AV.int c.Rec.Txn, AV.int c.Rec.Time, AV.int c.Rec.Lead, strs c.Rec.Reads, AV.list 3 (c.Rec.Writes.map TWrite.cs), AV.bool c.Rec.Yes]
def TGroupAct.size (c : TGroupAct) : Nat := c.Rec.size
def TGroupAct.ok (c : TGroupAct) : Prop := c.Rec.ok
structure THouseAct where
  Kind : Int
  Rep : Int
  Rec : TRec
  Keep : Int
  Torn : Bool
deriving DecidableEq, Inhabited
def THouseAct.cs (c : THouseAct) : List AV := [AV.int c.Kind, AV.int c.Rep, AV.int c.Rec.Kind, AV.int c.Rec.Txn, AV.int c.Rec.Time, AV.int c.Rec.Lead, strs c.Rec.Reads, AV.list 3 (c.Rec.Writes.map TWrite.cs), AV.bool c.Rec.Yes, AV.int c.Keep, AV.bool c.Torn]
def THouseAct.size (c : THouseAct) : Nat := c.Rec.size
def THouseAct.ok (c : THouseAct) : Prop := c.Rec.ok
structure TLock where
  Key : Str
  Txn : Int
  Write : Bool
deriving DecidableEq, Inhabited
def TLock.cs (c : TLock) : List AV := [AV.str c.Key, AV.int c.Txn, AV.bool c.Write]
theorem TLock.flat (c : TLock) : ∀ x ∈ c.cs, Flat x := (flatl_cons (flat_str _) (flatl_cons (flat_ik _ _) (flatl_cons (flat_bool _) flatl_nil)))
def TLock.size (c : TLock) : Nat := c.Key.length
def TLock.ok (c : TLock) : Prop := c.Key.length ≤ 9223372036854775807
structure TVer where
  Time : Int
  Val : Str
  Gone : Bool
deriving DecidableEq, Inhabited
def TVer.cs (c : TVer) : List AV := [AV.int c.Time, AV.str c.Val, AV.bool c.Gone]
theorem TVer.flat (c : TVer) : ∀ x ∈ c.cs, Flat x := (flatl_cons (flat_ik _ _) (flatl_cons (flat_str _) (flatl_cons (flat_bool _) flatl_nil)))
def TVer.size (c : TVer) : Nat := c.Val.length
def TVer.ok (c : TVer) : Prop := c.Val.length ≤ 9223372036854775807
structure TCell where
  Key : Str
  Vers : List TVer
deriving DecidableEq, Inhabited
def TCell.cs (c : TCell) : List AV := [AV.str c.Key, AV.list 3 (c.Vers.map TVer.cs)]
def TCell.size (c : TCell) : Nat := c.Key.length + sizeL TVer.size c.Vers
def TCell.ok (c : TCell) : Prop := c.Key.length ≤ 9223372036854775807 ∧ (∀ x ∈ c.Vers, x.ok)
structure THeld where
  Txn : Int
  Time : Int
  Lead : Int
  Reads : List Str
  Writes : List TWrite
deriving DecidableEq, Inhabited
def THeld.cs (c : THeld) : List AV := [AV.int c.Txn, AV.int c.Time, AV.int c.Lead, strs c.Reads, AV.list 3 (c.Writes.map TWrite.cs)]
def THeld.size (c : THeld) : Nat := sizeL (fun x => x.length) c.Reads + sizeL TWrite.size c.Writes
def THeld.ok (c : THeld) : Prop := (∀ x ∈ c.Reads, x.length ≤ 9223372036854775807) ∧ (∀ x ∈ c.Writes, x.ok)
structure TTold where
  Txn : Int
  Yes : Bool
  Time : Int
deriving DecidableEq, Inhabited
def TTold.cs (c : TTold) : List AV := [AV.int c.Txn, AV.bool c.Yes, AV.int c.Time]
theorem TTold.flat (c : TTold) : ∀ x ∈ c.cs, Flat x := (flatl_cons (flat_ik _ _) (flatl_cons (flat_bool _) (flatl_cons (flat_ik _ _) flatl_nil)))
def TTold.size (c : TTold) : Nat := 0
structure TState where
  Floor : Int
  Cells : List TCell
  Held : List THeld
  Told : List TTold
deriving DecidableEq, Inhabited
def TState.cs (c : TState) : List AV := [AV.int c.Floor, AV.list 2 (c.Cells.map TCell.cs), AV.list 5 (c.Held.map THeld.cs), AV.list 3 (c.Told.map TTold.cs)]
def TState.size (c : TState) : Nat := sizeL TCell.size c.Cells + sizeL THeld.size c.Held + c.Told.length
def TState.ok (c : TState) : Prop := (∀ x ∈ c.Cells, x.ok) ∧ (∀ x ∈ c.Held, x.ok)
structure TSpan where
  Low : Int
  High : Int
deriving DecidableEq, Inhabited
def TSpan.cs (c : TSpan) : List AV := [AV.int c.Low, AV.int c.High]
theorem TSpan.flat (c : TSpan) : ∀ x ∈ c.cs, Flat x := (flatl_cons (flat_ik _ _) (flatl_cons (flat_ik _ _) flatl_nil))
def TSpan.size (c : TSpan) : Nat := 0
structure TOrder where
  Txn : Int
  Reads : List Str
  Writes : List TWrite
deriving DecidableEq, Inhabited
def TOrder.cs (c : TOrder) : List AV := [AV.int c.Txn, strs c.Reads, AV.list 3 (c.Writes.map TWrite.cs)]
def TOrder.size (c : TOrder) : Nat := sizeL (fun x => x.length) c.Reads + sizeL TWrite.size c.Writes
def TOrder.ok (c : TOrder) : Prop := (∀ x ∈ c.Reads, x.length ≤ 9223372036854775807) ∧ (∀ x ∈ c.Writes, x.ok)
structure TDeal where
  Cuts : List Str
  States : List TState
  Orders : List TOrder
deriving DecidableEq, Inhabited
def TDeal.cs (c : TDeal) : List AV := [strs c.Cuts, AV.list 4 (c.States.map TState.cs), AV.list 3 (c.Orders.map TOrder.cs)]
def TDeal.size (c : TDeal) : Nat := sizeL (fun x => x.length) c.Cuts + sizeL TState.size c.States + sizeL TOrder.size c.Orders
def TDeal.ok (c : TDeal) : Prop := (∀ x ∈ c.Cuts, x.length ≤ 9223372036854775807) ∧ (∀ x ∈ c.States, x.ok) ∧ (∀ x ∈ c.Orders, x.ok)
structure TDealAct where
  Kind : Int
  Txn : Int
  Part : Int
  Time : Int
deriving DecidableEq, Inhabited
def TDealAct.cs (c : TDealAct) : List AV := [AV.int c.Kind, AV.int c.Txn, AV.int c.Part, AV.int c.Time]
theorem TDealAct.flat (c : TDealAct) : ∀ x ∈ c.cs, Flat x := (flatl_cons (flat_ik _ _) (flatl_cons (flat_ik _ _) (flatl_cons (flat_ik _ _) (flatl_cons (flat_ik _ _) flatl_nil))))
def TDealAct.size (c : TDealAct) : Nat := 0
structure TOp where
  Kind : Int
  Key : Str
  Val : Str
  By : Int
deriving DecidableEq, Inhabited
def TOp.cs (c : TOp) : List AV := [AV.int c.Kind, AV.str c.Key, AV.str c.Val, AV.int c.By]
theorem TOp.flat (c : TOp) : ∀ x ∈ c.cs, Flat x := (flatl_cons (flat_ik _ _) (flatl_cons (flat_str _) (flatl_cons (flat_str _) (flatl_cons (flat_ik _ _) flatl_nil))))
def TOp.size (c : TOp) : Nat := c.Key.length + c.Val.length
def TOp.ok (c : TOp) : Prop := c.Key.length ≤ 9223372036854775807 ∧ c.Val.length ≤ 9223372036854775807
structure TGot where
  Key : Str
  Val : Str
  There : Bool
deriving DecidableEq, Inhabited
def TGot.cs (c : TGot) : List AV := [AV.str c.Key, AV.str c.Val, AV.bool c.There]
theorem TGot.flat (c : TGot) : ∀ x ∈ c.cs, Flat x := (flatl_cons (flat_str _) (flatl_cons (flat_str _) (flatl_cons (flat_bool _) flatl_nil)))
def TGot.size (c : TGot) : Nat := c.Key.length + c.Val.length
def TGot.ok (c : TGot) : Prop := c.Key.length ≤ 9223372036854775807 ∧ c.Val.length ≤ 9223372036854775807
structure TWorldTxn where
  Ops : List TOp
  Got : List TGot
  Terms : List Int
  Begin : Int
  End : Int
  Yes : Bool
  Time : Int
  Dead : Bool
  Put : Bool
  Stopped : Bool
deriving DecidableEq, Inhabited
def TWorldTxn.cs (c : TWorldTxn) : List AV := [AV.list 4 (c.Ops.map TOp.cs), AV.list 3 (c.Got.map TGot.cs), ints c.Terms, AV.int c.Begin, AV.int c.End, AV.bool c.Yes, AV.int c.Time, AV.bool c.Dead, AV.bool c.Put, AV.bool c.Stopped]
def TWorldTxn.size (c : TWorldTxn) : Nat := sizeL TOp.size c.Ops + sizeL TGot.size c.Got + c.Terms.length
def TWorldTxn.ok (c : TWorldTxn) : Prop := (∀ x ∈ c.Ops, x.ok) ∧ (∀ x ∈ c.Got, x.ok)
structure TWorldLook where
  Node : Int
  Keys : List Str
  Got : List TGot
  Time : Int
  Begin : Int
  End : Int
deriving DecidableEq, Inhabited
def TWorldLook.cs (c : TWorldLook) : List AV := [AV.int c.Node, strs c.Keys, AV.list 3 (c.Got.map TGot.cs), AV.int c.Time, AV.int c.Begin, AV.int c.End]
def TWorldLook.size (c : TWorldLook) : Nat := sizeL (fun x => x.length) c.Keys + sizeL TGot.size c.Got
def TWorldLook.ok (c : TWorldLook) : Prop := (∀ x ∈ c.Keys, x.length ≤ 9223372036854775807) ∧ (∀ x ∈ c.Got, x.ok)
structure TWorld where
  Now : Int
  Count : Int
  Clocks : List TClock
  Cuts : List Str
  Groups : List TGroup
  Locks : List (List TLock)
  Promised : List Int
  Txns : List TWorldTxn
  Looks : List TWorldLook
deriving DecidableEq, Inhabited
def TWorld.cs (c : TWorld) : List AV := [AV.int c.Now, AV.int c.Count, AV.list 1 (c.Clocks.map TClock.cs), strs c.Cuts, AV.list 3 (c.Groups.map TGroup.cs), AV.list 1 (c.Locks.map fun x => [AV.list 3 (x.map TLock.cs)]), ints c.Promised, AV.list 10 (c.Txns.map TWorldTxn.cs), AV.list 6 (c.Looks.map TWorldLook.cs)]
def TWorld.size (c : TWorld) : Nat := c.Clocks.length + sizeL (fun x => x.length) c.Cuts + sizeL TGroup.size c.Groups + sizeL (fun x => sizeL TLock.size x) c.Locks + c.Promised.length + sizeL TWorldTxn.size c.Txns + sizeL TWorldLook.size c.Looks
def TWorld.ok (c : TWorld) : Prop := (∀ x ∈ c.Cuts, x.length ≤ 9223372036854775807) ∧ (∀ x ∈ c.Groups, x.ok) ∧ (∀ x ∈ c.Locks, (∀ y ∈ x, y.ok)) ∧ (∀ x ∈ c.Txns, x.ok) ∧ (∀ x ∈ c.Looks, x.ok)
structure TWorldAct where
  Kind : Int
  At : Int
  By : Int
deriving DecidableEq, Inhabited
def TWorldAct.cs (c : TWorldAct) : List AV := [AV.int c.Kind, AV.int c.At, AV.int c.By]
theorem TWorldAct.flat (c : TWorldAct) : ∀ x ∈ c.cs, Flat x := (flatl_cons (flat_ik _ _) (flatl_cons (flat_ik _ _) (flatl_cons (flat_ik _ _) flatl_nil)))
def TWorldAct.size (c : TWorldAct) : Nat := 0
structure TDeed where
  Txn : Int
  Begin : Int
  End : Int
  Yes : Bool
  Look : Bool
  Time : Int
  Got : List TGot
  Writes : List TWrite
deriving DecidableEq, Inhabited
def TDeed.cs (c : TDeed) : List AV := [AV.int c.Txn, AV.int c.Begin, AV.int c.End, AV.bool c.Yes, AV.bool c.Look, AV.int c.Time, AV.list 3 (c.Got.map TGot.cs), AV.list 3 (c.Writes.map TWrite.cs)]
def TDeed.size (c : TDeed) : Nat := sizeL TGot.size c.Got + sizeL TWrite.size c.Writes
def TDeed.ok (c : TDeed) : Prop := (∀ x ∈ c.Got, x.ok) ∧ (∀ x ∈ c.Writes, x.ok)
structure TPlaces where
  Ver : Int
  Cuts : List Str
  Groups : List Int
deriving DecidableEq, Inhabited
def TPlaces.cs (c : TPlaces) : List AV := [AV.int c.Ver, strs c.Cuts, ints c.Groups]
def TPlaces.size (c : TPlaces) : Nat := sizeL (fun x => x.length) c.Cuts + c.Groups.length
def TPlaces.ok (c : TPlaces) : Prop := (∀ x ∈ c.Cuts, x.length ≤ 9223372036854775807)
structure TAtlas where
  Maps : List TPlaces
  Knows : List Int
deriving DecidableEq, Inhabited
def TAtlas.cs (c : TAtlas) : List AV := [AV.list 3 (c.Maps.map TPlaces.cs), ints c.Knows]
def TAtlas.size (c : TAtlas) : Nat := sizeL TPlaces.size c.Maps + c.Knows.length
def TAtlas.ok (c : TAtlas) : Prop := (∀ x ∈ c.Maps, x.ok)
structure TMove where
  Low : Str
  High : Str
  Phase : Int
  From : List TWrite
  To : List TWrite
  Last : Str
  Over : Bool
deriving DecidableEq, Inhabited
def TMove.cs (c : TMove) : List AV := [AV.str c.Low, AV.str c.High, AV.int c.Phase, AV.list 3 (c.From.map TWrite.cs), AV.list 3 (c.To.map TWrite.cs), AV.str c.Last, AV.bool c.Over]
def TMove.size (c : TMove) : Nat := c.Low.length + c.High.length + sizeL TWrite.size c.From + sizeL TWrite.size c.To + c.Last.length
def TMove.ok (c : TMove) : Prop := c.Low.length ≤ 9223372036854775807 ∧ c.High.length ≤ 9223372036854775807 ∧ (∀ x ∈ c.From, x.ok) ∧ (∀ x ∈ c.To, x.ok) ∧ c.Last.length ≤ 9223372036854775807
structure TMoveAct where
  Kind : Int
  Write : TWrite
  Many : Int
deriving DecidableEq, Inhabited
def TMoveAct.cs (c : TMoveAct) : List AV := [AV.int c.Kind, AV.str c.Write.Key, AV.str c.Write.Val, AV.bool c.Write.Gone, AV.int c.Many]
theorem TMoveAct.flat (c : TMoveAct) : ∀ x ∈ c.cs, Flat x := (flatl_cons (flat_ik _ _) (flatl_cons (flat_str _) (flatl_cons (flat_str _) (flatl_cons (flat_bool _) (flatl_cons (flat_ik _ _) flatl_nil)))))
def TMoveAct.size (c : TMoveAct) : Nat := c.Write.size
def TMoveAct.ok (c : TMoveAct) : Prop := c.Write.ok
structure TFeedItem where
  Time : Int
  Group : Int
  Key : Str
  Val : Str
  Gone : Bool
deriving DecidableEq, Inhabited
def TFeedItem.cs (c : TFeedItem) : List AV := [AV.int c.Time, AV.int c.Group, AV.str c.Key, AV.str c.Val, AV.bool c.Gone]
theorem TFeedItem.flat (c : TFeedItem) : ∀ x ∈ c.cs, Flat x := (flatl_cons (flat_ik _ _) (flatl_cons (flat_ik _ _) (flatl_cons (flat_str _) (flatl_cons (flat_str _) (flatl_cons (flat_bool _) flatl_nil)))))
def TFeedItem.size (c : TFeedItem) : Nat := c.Key.length + c.Val.length
def TFeedItem.ok (c : TFeedItem) : Prop := c.Key.length ≤ 9223372036854775807 ∧ c.Val.length ≤ 9223372036854775807
structure TFeeder where
  Done : Int
deriving DecidableEq, Inhabited
def TFeeder.cs (c : TFeeder) : List AV := [AV.int c.Done]
theorem TFeeder.flat (c : TFeeder) : ∀ x ∈ c.cs, Flat x := (flatl_cons (flat_ik _ _) flatl_nil)
def TFeeder.size (c : TFeeder) : Nat := 0
structure TIdx where
  Name : Str
  Col : Int
  Stage : Int
deriving DecidableEq, Inhabited
def TIdx.cs (c : TIdx) : List AV := [AV.str c.Name, AV.int c.Col, AV.int c.Stage]
theorem TIdx.flat (c : TIdx) : ∀ x ∈ c.cs, Flat x := (flatl_cons (flat_str _) (flatl_cons (flat_ik _ _) (flatl_cons (flat_ik _ _) flatl_nil)))
def TIdx.size (c : TIdx) : Nat := c.Name.length
def TIdx.ok (c : TIdx) : Prop := c.Name.length ≤ 9223372036854775807
structure TTable where
  Name : Str
  Cols : List Str
  Idxs : List TIdx
deriving DecidableEq, Inhabited
def TTable.cs (c : TTable) : List AV := [AV.str c.Name, strs c.Cols, AV.list 3 (c.Idxs.map TIdx.cs)]
def TTable.size (c : TTable) : Nat := c.Name.length + sizeL (fun x => x.length) c.Cols + sizeL TIdx.size c.Idxs
def TTable.ok (c : TTable) : Prop := c.Name.length ≤ 9223372036854775807 ∧ (∀ x ∈ c.Cols, x.length ≤ 9223372036854775807) ∧ (∀ x ∈ c.Idxs, x.ok)
structure TRow where
  Vals : List Str
deriving DecidableEq, Inhabited
def TRow.cs (c : TRow) : List AV := [strs c.Vals]
def TRow.size (c : TRow) : Nat := sizeL (fun x => x.length) c.Vals
def TRow.ok (c : TRow) : Prop := (∀ x ∈ c.Vals, x.length ≤ 9223372036854775807)
structure TRowAct where
  Kind : Int
  Old : TRow
  New : TRow
deriving DecidableEq, Inhabited
def TRowAct.cs (c : TRowAct) : List AV := [AV.int c.Kind, strs c.Old.Vals, strs c.New.Vals]
def TRowAct.size (c : TRowAct) : Nat := c.Old.size + c.New.size
def TRowAct.ok (c : TRowAct) : Prop := c.Old.ok ∧ c.New.ok
structure TShift where
  Name : Str
  Ways : List TTable
  At : List Int
  Store : List TWrite
deriving DecidableEq, Inhabited
def TShift.cs (c : TShift) : List AV := [AV.str c.Name, AV.list 3 (c.Ways.map TTable.cs), ints c.At, AV.list 3 (c.Store.map TWrite.cs)]
def TShift.size (c : TShift) : Nat := c.Name.length + sizeL TTable.size c.Ways + c.At.length + sizeL TWrite.size c.Store
def TShift.ok (c : TShift) : Prop := c.Name.length ≤ 9223372036854775807 ∧ (∀ x ∈ c.Ways, x.ok) ∧ (∀ x ∈ c.Store, x.ok)
structure TShiftAct where
  Server : Int
  Step : Int
  Act : TRowAct
deriving DecidableEq, Inhabited
def TShiftAct.cs (c : TShiftAct) : List AV := [AV.int c.Server, AV.int c.Step, AV.int c.Act.Kind, strs c.Act.Old.Vals, strs c.Act.New.Vals]
def TShiftAct.size (c : TShiftAct) : Nat := c.Act.size
def TShiftAct.ok (c : TShiftAct) : Prop := c.Act.ok
structure TVLease where
  Ver : Int
  Until : Int
deriving DecidableEq, Inhabited
def TVLease.cs (c : TVLease) : List AV := [AV.int c.Ver, AV.int c.Until]
theorem TVLease.flat (c : TVLease) : ∀ x ∈ c.cs, Flat x := (flatl_cons (flat_ik _ _) (flatl_cons (flat_ik _ _) flatl_nil))
def TVLease.size (c : TVLease) : Nat := 0
structure TRenew where
  Now : Int
  Master : TClock
  Clocks : List TClock
  Ver : Int
  Leases : List TVLease
deriving DecidableEq, Inhabited
def TRenew.cs (c : TRenew) : List AV := [AV.int c.Now, AV.int c.Master.Off, AV.list 1 (c.Clocks.map TClock.cs), AV.int c.Ver, AV.list 2 (c.Leases.map TVLease.cs)]
def TRenew.size (c : TRenew) : Nat := c.Clocks.length + c.Leases.length
structure TRenewAct where
  Kind : Int
  Who : Int
  By : Int
deriving DecidableEq, Inhabited
def TRenewAct.cs (c : TRenewAct) : List AV := [AV.int c.Kind, AV.int c.Who, AV.int c.By]
theorem TRenewAct.flat (c : TRenewAct) : ∀ x ∈ c.cs, Flat x := (flatl_cons (flat_ik _ _) (flatl_cons (flat_ik _ _) (flatl_cons (flat_ik _ _) flatl_nil)))
def TRenewAct.size (c : TRenewAct) : Nat := 0
structure TFill where
  Last : Str
  Over : Bool
deriving DecidableEq, Inhabited
def TFill.cs (c : TFill) : List AV := [AV.str c.Last, AV.bool c.Over]
theorem TFill.flat (c : TFill) : ∀ x ∈ c.cs, Flat x := (flatl_cons (flat_str _) (flatl_cons (flat_bool _) flatl_nil))
def TFill.size (c : TFill) : Nat := c.Last.length
def TFill.ok (c : TFill) : Prop := c.Last.length ≤ 9223372036854775807
structure TWork where
  Shift : TShift
  Up : TFill
  Down : TFill
deriving DecidableEq, Inhabited
def TWork.cs (c : TWork) : List AV := [AV.str c.Shift.Name, AV.list 3 (c.Shift.Ways.map TTable.cs), ints c.Shift.At, AV.list 3 (c.Shift.Store.map TWrite.cs), AV.str c.Up.Last, AV.bool c.Up.Over, AV.str c.Down.Last, AV.bool c.Down.Over]
def TWork.size (c : TWork) : Nat := c.Shift.size + c.Up.size + c.Down.size
def TWork.ok (c : TWork) : Prop := c.Shift.ok ∧ c.Up.ok ∧ c.Down.ok
structure TWorkAct where
  Kind : Int
  Many : Int
  Act : TShiftAct
deriving DecidableEq, Inhabited
def TWorkAct.cs (c : TWorkAct) : List AV := [AV.int c.Kind, AV.int c.Many, AV.int c.Act.Server, AV.int c.Act.Step, AV.int c.Act.Act.Kind, strs c.Act.Act.Old.Vals, strs c.Act.Act.New.Vals]
def TWorkAct.size (c : TWorkAct) : Nat := c.Act.size
def TWorkAct.ok (c : TWorkAct) : Prop := c.Act.ok
structure TStmt where
  Kind : Int
  Act : TRowAct
  Idx : Str
  Low : Str
  High : Str
deriving DecidableEq, Inhabited
def TStmt.cs (c : TStmt) : List AV := [AV.int c.Kind, AV.int c.Act.Kind, strs c.Act.Old.Vals, strs c.Act.New.Vals, AV.str c.Idx, AV.str c.Low, AV.str c.High]
def TStmt.size (c : TStmt) : Nat := c.Act.size + c.Idx.length + c.Low.length + c.High.length
def TStmt.ok (c : TStmt) : Prop := c.Act.ok ∧ c.Idx.length ≤ 9223372036854775807 ∧ c.Low.length ≤ 9223372036854775807 ∧ c.High.length ≤ 9223372036854775807
structure TCopy where
  Time : Int
  Rows : List TWrite
deriving DecidableEq, Inhabited
def TCopy.cs (c : TCopy) : List AV := [AV.int c.Time, AV.list 3 (c.Rows.map TWrite.cs)]
def TCopy.size (c : TCopy) : Nat := sizeL TWrite.size c.Rows
def TCopy.ok (c : TCopy) : Prop := (∀ x ∈ c.Rows, x.ok)
structure TDiff where
  From : Int
  To : Int
  List_ : List TFeedItem
deriving DecidableEq, Inhabited
def TDiff.cs (c : TDiff) : List AV := [AV.int c.From, AV.int c.To, AV.list 5 (c.List_.map TFeedItem.cs)]
def TDiff.size (c : TDiff) : Nat := sizeL TFeedItem.size c.List_
def TDiff.ok (c : TDiff) : Prop := (∀ x ∈ c.List_, x.ok)
structure TLiveJob where
  Ver : Int
  Fill : Bool
  Act : TRowAct
  Row : TRow
deriving DecidableEq, Inhabited
def TLiveJob.cs (c : TLiveJob) : List AV := [AV.int c.Ver, AV.bool c.Fill, AV.int c.Act.Kind, strs c.Act.Old.Vals, strs c.Act.New.Vals, strs c.Row.Vals]
def TLiveJob.size (c : TLiveJob) : Nat := c.Act.size + c.Row.size
def TLiveJob.ok (c : TLiveJob) : Prop := c.Act.ok ∧ c.Row.ok
structure TLive where
  Name : Str
  Ways : List TTable
  Low : Int
  Since : List Int
  Jobs : List TLiveJob
  World : TWorld
deriving DecidableEq, Inhabited
def TLive.cs (c : TLive) : List AV := [AV.str c.Name, AV.list 3 (c.Ways.map TTable.cs), AV.int c.Low, ints c.Since, AV.list 6 (c.Jobs.map TLiveJob.cs), AV.int c.World.Now, AV.int c.World.Count, AV.list 1 (c.World.Clocks.map TClock.cs), strs c.World.Cuts, AV.list 3 (c.World.Groups.map TGroup.cs), AV.list 1 (c.World.Locks.map fun x => [AV.list 3 (x.map TLock.cs)]), ints c.World.Promised, AV.list 10 (c.World.Txns.map TWorldTxn.cs), AV.list 6 (c.World.Looks.map TWorldLook.cs)]
def TLive.size (c : TLive) : Nat := c.Name.length + sizeL TTable.size c.Ways + c.Since.length + sizeL TLiveJob.size c.Jobs + c.World.size
def TLive.ok (c : TLive) : Prop := c.Name.length ≤ 9223372036854775807 ∧ (∀ x ∈ c.Ways, x.ok) ∧ (∀ x ∈ c.Jobs, x.ok) ∧ c.World.ok
structure TLiveAct where
  Kind : Int
  Act : TWorldAct
deriving DecidableEq, Inhabited
def TLiveAct.cs (c : TLiveAct) : List AV := [AV.int c.Kind, AV.int c.Act.Kind, AV.int c.Act.At, AV.int c.Act.By]
theorem TLiveAct.flat (c : TLiveAct) : ∀ x ∈ c.cs, Flat x := (flatl_cons (flat_ik _ _) (flatl_cons (flat_ik _ _) (flatl_cons (flat_ik _ _) (flatl_cons (flat_ik _ _) flatl_nil))))
def TLiveAct.size (c : TLiveAct) : Nat := 0
structure TLetter where
  From : Int
  To : Int
  Due : Int
  Body : Str
deriving DecidableEq, Inhabited
def TLetter.cs (c : TLetter) : List AV := [AV.int c.From, AV.int c.To, AV.int c.Due, AV.str c.Body]
theorem TLetter.flat (c : TLetter) : ∀ x ∈ c.cs, Flat x := (flatl_cons (flat_ik _ _) (flatl_cons (flat_ik _ _) (flatl_cons (flat_ik _ _) (flatl_cons (flat_str _) flatl_nil))))
def TLetter.size (c : TLetter) : Nat := c.Body.length
def TLetter.ok (c : TLetter) : Prop := c.Body.length ≤ 9223372036854775807
structure TNet where
  Now : Int
  Homes : List Int
  Far : Int
  Under : List TLetter
deriving DecidableEq, Inhabited
def TNet.cs (c : TNet) : List AV := [AV.int c.Now, ints c.Homes, AV.int c.Far, AV.list 4 (c.Under.map TLetter.cs)]
def TNet.size (c : TNet) : Nat := c.Homes.length + sizeL TLetter.size c.Under
def TNet.ok (c : TNet) : Prop := (∀ x ∈ c.Under, x.ok)
structure TVoter where
  Up : Bool
  Term : Int
  For : Int
  Yes : List Int
  Leads : Bool
deriving DecidableEq, Inhabited
def TVoter.cs (c : TVoter) : List AV := [AV.bool c.Up, AV.int c.Term, AV.int c.For, ints c.Yes, AV.bool c.Leads]
def TVoter.size (c : TVoter) : Nat := c.Yes.length
structure TWon where
  Term : Int
  Who : Int
deriving DecidableEq, Inhabited
def TWon.cs (c : TWon) : List AV := [AV.int c.Term, AV.int c.Who]
theorem TWon.flat (c : TWon) : ∀ x ∈ c.cs, Flat x := (flatl_cons (flat_ik _ _) (flatl_cons (flat_ik _ _) flatl_nil))
def TWon.size (c : TWon) : Nat := 0
structure TPoll where
  Voters : List TVoter
  Net : TNet
  Won : List TWon
deriving DecidableEq, Inhabited
def TPoll.cs (c : TPoll) : List AV := [AV.list 5 (c.Voters.map TVoter.cs), AV.int c.Net.Now, ints c.Net.Homes, AV.int c.Net.Far, AV.list 4 (c.Net.Under.map TLetter.cs), AV.list 2 (c.Won.map TWon.cs)]
def TPoll.size (c : TPoll) : Nat := sizeL TVoter.size c.Voters + c.Net.size + c.Won.length
def TPoll.ok (c : TPoll) : Prop := c.Net.ok
structure TPollAct where
  Kind : Int
  Who : Int
  By : Int
deriving DecidableEq, Inhabited
def TPollAct.cs (c : TPollAct) : List AV := [AV.int c.Kind, AV.int c.Who, AV.int c.By]
theorem TPollAct.flat (c : TPollAct) : ∀ x ∈ c.cs, Flat x := (flatl_cons (flat_ik _ _) (flatl_cons (flat_ik _ _) (flatl_cons (flat_ik _ _) flatl_nil)))
def TPollAct.size (c : TPollAct) : Nat := 0
end Go.M

namespace Go.M

def within (n lo hi : Int) : Bool := decide (lo ≤ n) && decide (n ≤ hi)
def lowDig (b : UInt8) : Bool := (decide ((97 : Int) ≤ (b.toNat : Int)) && decide ((b.toNat : Int) ≤ 122)) || (decide ((48 : Int) ≤ (b.toNat : Int)) && decide ((b.toNat : Int) ≤ 57))
def idxB (s : Str) (c : UInt8) : Int := firstIdx ⟨s.toArray⟩ c
def hasB (s o : Str) : Bool := s.all fun c => !(!lowDig c && decide (idxB o c < 0))
def goodKey (s : Str) : Bool := within s.length 1 12 && hasB s [46, 47]
def goodVal (s : Str) : Bool := decide ((s.length : Int) ≤ 24) && hasB s [46, 45, 44, 95]
def l3Bytes (s o : Str) : Bool := s.all fun c => (lowDig c || o.any fun d => ((c.toNat : Int) == (d.toNat : Int)))
def l3Key (s : Str) : Bool := within s.length 1 12 && l3Bytes s [46, 47]
theorem hasB_cons (c : UInt8) (s o : Str) : hasB (c :: s) o = (!(!lowDig c && decide (idxB o c < 0)) && hasB s o) := rfl
theorem l3Bytes_cons (c : UInt8) (s o : Str) : l3Bytes (c :: s) o = ((lowDig c || o.any fun d => ((c.toNat : Int) == (d.toNat : Int))) && l3Bytes s o) := rfl
end Go.M

namespace Go.M
def sLt (a b : Str) : Bool := Op.bytesLess a b
def areEnds (low high : Str) : Bool := (low == [] || goodKey low) && (high == [] || goodKey high && !(Op.bytesLess high low || high == low))
def inRange (low high key : Str) : Bool := !Op.bytesLess key low && (high == [] || Op.bytesLess key high)
def l22Ends (low high : Str) : Bool := (low == [] || l3Key low) && (high == [] || l3Key high && Op.bytesLess low high)
def isWithin (low high key : Str) : Bool × Bool := if !areEnds low high || !goodKey key then (false, false) else (inRange low high key, true)
def isWithinS (low high key : Str) : Bool × Bool := if !l22Ends low high || !l3Key key then (false, false) else (inRange low high key, true)
end Go.M

set_option linter.unusedSimpArgs false
set_option linter.unusedVariables false
namespace Go.M
theorem idxB_neg (o : Str) (c : UInt8) : decide (idxB o c < 0) = !(o.any fun d => ((c.toNat : Int) == (d.toNat : Int))) := by
  have hm : (o.any fun d => ((c.toNat : Int) == (d.toNat : Int))) = decide (c ∈ o) := by
    rw [Bool.eq_iff_iff]
    simp only [List.any_eq_true, beq_iff_eq, decide_eq_true_eq]
    constructor
    · rintro ⟨d, hd, he⟩
      have : c = d := UInt8.toNat_inj.1 (by exact_mod_cast he)
      exact this ▸ hd
    · intro h; exact ⟨c, h, rfl⟩
  rw [hm]
  unfold idxB firstIdx
  have hsz : (ByteArray.mk o.toArray).size = o.length := by simp [ByteArray.size]
  have hget : ∀ i, i < o.length → (ByteArray.mk o.toArray)[i]! = o[i]! := fun i hi => by
    simp [getElem!_def, ByteArray.getElem?_lt', hsz, hi]
    rfl
  rw [hsz]
  cases hf : (List.range o.length).find? fun i => (ByteArray.mk o.toArray)[i]! == c with
  | some i =>
    have h1 := List.find?_some hf
    have h2 := List.mem_range.1 (List.mem_of_find?_eq_some hf)
    rw [hget i h2] at h1
    have h3 : c ∈ o := by
      have : o[i]! = c := by simpa using h1
      rw [← this, getElem!_pos o i h2]
      exact List.getElem_mem h2
    simp [h3]
  | none =>
    have h1 := List.find?_eq_none.1 hf
    have h3 : ¬ c ∈ o := fun hm => by
      obtain ⟨i, hi, he⟩ := List.getElem_of_mem hm
      have := h1 i (List.mem_range.2 hi)
      rw [hget i hi, getElem!_pos o i hi, he] at this
      simp at this
    simp [h3]
theorem hasB_eq (s o : Str) : hasB s o = l3Bytes s o := by
  unfold hasB l3Bytes
  congr 1
  funext c
  rw [idxB_neg]
  cases lowDig c <;> simp
theorem goodKey_eq (s : Str) : goodKey s = l3Key s := by unfold goodKey l3Key; rw [hasB_eq]
theorem bytesLess_irrefl : ∀ a : Str, Op.bytesLess a a = false
  | [] => rfl
  | a :: x => by simp [Op.bytesLess, bytesLess_irrefl x]
theorem bytesLess_tri : ∀ a b : Str, Op.bytesLess a b = !(Op.bytesLess b a || b == a)
  | [], [] => rfl
  | [], _ :: _ => rfl
  | _ :: _, [] => rfl
  | a :: x, b :: y => by
    have ih := bytesLess_tri x y
    simp only [Op.bytesLess]
    by_cases hab : a = b
    · subst hab
      simp [ih]
    · have h1 : (a == b) = false := by simpa using hab
      have h2 : (b == a) = false := by simpa using fun h => hab h.symm
      have h3 : (b :: y == a :: x) = false := by simp [h2]
      simp only [h1, h2, h3, Bool.false_and, Bool.or_false]
      rw [Bool.eq_iff_iff]
      simp only [decide_eq_true_eq, Bool.not_eq_true', decide_eq_false_iff_not, UInt8.not_lt]
      constructor
      · exact UInt8.le_of_lt
      · exact fun h => UInt8.lt_of_le_of_ne h hab
theorem areEnds_eq (low high : Str) : areEnds low high = l22Ends low high := by
  unfold areEnds l22Ends
  rw [goodKey_eq, goodKey_eq, bytesLess_tri low high]
theorem isWithin_eq (low high key : Str) : isWithin low high key = isWithinS low high key := by
  unfold isWithin isWithinS
  rw [areEnds_eq, goodKey_eq]
end Go.M

set_option linter.unusedVariables false
namespace Go.M
/-- Each element and the one before it. -/
def adj {α : Type} (p : α → α → Bool) : List α → Bool
  | [] => true
  | [_] => true
  | x :: y :: l => p x y && adj p (y :: l)
theorem drop_two {α : Type} {l : List α} {k : Nat} {x y : α} (hy : l[k]? = some y) (hx : l[k + 1]? = some x) : l.drop k = y :: x :: l.drop (k + 2) := by
  rw [Go.AV.drop_some hy, Go.AV.drop_some hx]
theorem adj_step {α : Type} {p : α → α → Bool} {l : List α} {i : Nat} {x y : α} (hx : l[i]? = some x) (hy : l[i - 1]? = some y) (h : 0 < i → p y x = true) : adj p (l.drop (i - 1)) = adj p (l.drop (i + 1 - 1)) := by
  cases i with
  | zero => rfl
  | succ k =>
    simp only [Nat.add_sub_cancel] at *
    rw [drop_two hy hx, Go.AV.drop_some hx, adj, h (by omega), Bool.true_and]
theorem adj_stop {α : Type} {p : α → α → Bool} {l : List α} {i : Nat} {x y : α} (hx : l[i]? = some x) (hy : l[i - 1]? = some y) (h0 : 0 < i) (h : p y x = false) : adj p (l.drop (i - 1)) = false := by
  cases i with
  | zero => omega
  | succ k =>
    simp only [Nat.add_sub_cancel] at *
    rw [drop_two hy hx, adj, h, Bool.false_and]
theorem adj_end {α : Type} {p : α → α → Bool} {l : List α} {i : Nat} (h : l.length ≤ i) : adj p (l.drop (i - 1)) = true := by
  have hl : (l.drop (i - 1)).length ≤ 1 := by rw [List.length_drop]; omega
  match hd : l.drop (i - 1), hl with
  | [], _ => rfl
  | [x], _ => rfl
theorem adj_congr {α : Type} {p q : α → α → Bool} (h : ∀ a b, p a b = q a b) : ∀ l : List α, adj p l = adj q l
  | [] => rfl
  | [_] => rfl
  | x :: y :: l => by rw [adj, adj, h, adj_congr h (y :: l)]
def isTime (t : Int) : Bool := within t 1 100000
def isGroup (g : Int) : Bool := within g 0 3
def isStored (val : Str) (gone : Bool) : Bool := goodVal val && !(gone && val != [])
def goodItem (c : TFeedItem) : Bool := isTime c.Time && isGroup c.Group && goodKey c.Key && isStored c.Val c.Gone
def l3Val (s : Str) : Bool := decide ((s.length : Int) ≤ 24) && l3Bytes s [46, 45, 44, 95]
def l3Write (key val : Str) (gone : Bool) : Bool := l3Key key && l3Val val && (!gone || val == [])
def l23Good (c : TFeedItem) : Bool := within c.Time 1 100000 && within c.Group 0 3 && l3Write c.Key c.Val c.Gone
def cmpInt (x y : Int) : Int := if x < y then -1 else if y < x then 1 else 0
def cmpStr (x y : Str) : Int := if Op.bytesLess x y then -1 else if Op.bytesLess y x then 1 else 0
def orInt : List Int → Int
  | [] => 0
  | x :: l => if x = 0 then orInt l else x
def compareItems (a b : TFeedItem) : Int := orInt [cmpInt a.Time b.Time, cmpInt a.Group b.Group, cmpStr a.Key b.Key]
def l23Ahead (a b : TFeedItem) : Bool := if a.Time ≠ b.Time then decide (a.Time < b.Time) else if a.Group ≠ b.Group then decide (a.Group < b.Group) else Op.bytesLess a.Key b.Key
def isFeed (l : List TFeedItem) : Bool := adj (fun a b => !decide (0 ≤ compareItems a b)) l && decide ((l.length : Int) ≤ 400)
def goodFeed (l : List TFeedItem) : Bool := isFeed l && !(l.any fun c => !goodItem c)
def l23Feed (l : List TFeedItem) : Bool := (l.all l23Good && adj l23Ahead l) && decide ((l.length : Int) ≤ 400)
theorem goodVal_eq (s : Str) : goodVal s = l3Val s := by unfold goodVal l3Val; rw [hasB_eq]
theorem isStored_eq (s : Str) (g : Bool) : isStored s g = (l3Val s && (!g || s == [])) := by
  unfold isStored; rw [goodVal_eq]; cases g <;> simp [bne]
theorem goodItem_eq (c : TFeedItem) : goodItem c = l23Good c := by
  unfold goodItem l23Good l3Write isTime isGroup
  rw [isStored_eq, goodKey_eq]; simp only [Bool.and_assoc]
theorem compare_ahead (a b : TFeedItem) : (!decide (0 ≤ compareItems a b)) = l23Ahead a b := by
  unfold compareItems l23Ahead orInt orInt orInt orInt cmpInt cmpStr
  have := bytesLess_tri a.Key b.Key
  by_cases h1 : a.Time < b.Time
  · simp [h1, show a.Time ≠ b.Time by omega]
  · by_cases h2 : b.Time < a.Time
    · simp [h1, h2, show a.Time ≠ b.Time by omega]
    · have h3 : a.Time = b.Time := by omega
      by_cases h4 : a.Group < b.Group
      · simp [h3, h4, show a.Group ≠ b.Group by omega]
      · by_cases h5 : b.Group < a.Group
        · simp [h3, h4, h5, show a.Group ≠ b.Group by omega]
        · have h6 : a.Group = b.Group := by omega
          simp only [h3, h6, Int.lt_irrefl, ne_eq, not_true_eq_false, if_false, if_true]
          cases h7 : Op.bytesLess a.Key b.Key <;> cases h8 : Op.bytesLess b.Key a.Key <;> simp
theorem goodFeed_eq (l : List TFeedItem) : goodFeed l = l23Feed l := by
  unfold goodFeed l23Feed isFeed
  rw [adj_congr compare_ahead, show (!(l.any fun c => !goodItem c)) = l.all l23Good by
    rw [List.not_any_eq_all_not]; congr 1; funext c; rw [Bool.not_not, goodItem_eq]]
  cases l.all l23Good <;> cases adj l23Ahead l <;> simp
end Go.M

set_option linter.unusedVariables false
namespace Go.M
/-- Each element and all before it. -/
def allPre {α : Type} (p : List α → α → Bool) : List α → List α → Bool
  | _, [] => true
  | pre, x :: l => p pre x && allPre p (pre ++ [x]) l
theorem allPre_step {α : Type} {p : List α → α → Bool} {l : List α} {i : Nat} {x : α} (hx : l[i]? = some x) (h : p (l.take i) x = true) : allPre p (l.take i) (l.drop i) = allPre p (l.take (i + 1)) (l.drop (i + 1)) := by
  rw [Go.AV.drop_some hx, allPre, h, Bool.true_and, List.take_add_one, hx]; rfl
theorem allPre_stop {α : Type} {p : List α → α → Bool} {l : List α} {i : Nat} {x : α} (hx : l[i]? = some x) (h : p (l.take i) x = false) : allPre p (l.take i) (l.drop i) = false := by
  rw [Go.AV.drop_some hx, allPre, h, Bool.false_and]
theorem allPre_end {α : Type} {p : List α → α → Bool} {l : List α} {i : Nat} (h : l.length ≤ i) : allPre p (l.take i) (l.drop i) = true := by
  rw [List.drop_eq_nil_of_le h]; rfl
theorem all_step {α : Type} {p : α → Bool} {l : List α} {i : Nat} {x : α} (hx : l[i]? = some x) (h : p x = true) : (l.drop i).all p = (l.drop (i + 1)).all p := by
  rw [Go.AV.drop_some hx, List.all_cons, h, Bool.true_and]
theorem all_stop {α : Type} {p : α → Bool} {l : List α} {i : Nat} {x : α} (hx : l[i]? = some x) (h : p x = false) : (l.drop i).all p = false := by
  rw [Go.AV.drop_some hx, List.all_cons, h, Bool.false_and]
theorem all_end {α : Type} {p : α → Bool} {l : List α} {i : Nat} (h : l.length ≤ i) : (l.drop i).all p = true := by
  rw [List.drop_eq_nil_of_le h]; rfl
def isLet (c : UInt8) : Bool := !(decide ((c.toNat : Int) < 97) || decide (122 < (c.toNat : Int)))
def letters (s : Str) (most : Int) : Bool := s.all isLet && within s.length 1 most
def isStage (t : Int) : Bool := within t 0 3
def goodCols (l : List Str) : Bool := allPre (fun pre s => letters s 3 && !(pre.any fun x => s == x)) [] l
def goodIdx (n : Int) (x : TIdx) : Bool := letters x.Name 1 && within x.Col 1 (n - 1) && within x.Stage 0 3
def lessName (a b : TIdx) : Bool := Op.bytesLess a.Name b.Name
def goodTable (t : TTable) : Bool := letters t.Name 1 && (within t.Cols.length 2 4 && goodCols t.Cols) && decide ((t.Idxs.length : Int) ≤ 3) && (t.Idxs.all (goodIdx t.Cols.length) && adj lessName t.Idxs)
def colAt (t : TTable) (c : Str) : Int × Bool :=
  let i := idxFrom (fun x => c == x) t.Cols 0
  if goodTable t = true ∧ 0 ≤ i then (i, true) else (0, false)
def l24Idx (t : TTable) (c : Str) : Int := idxFrom (fun x : TIdx => x.Name == c) t.Idxs 0
def idxAt (t : TTable) (c : Str) : TIdx × Bool :=
  if goodTable t = true ∧ 0 ≤ l24Idx t c then (match t.Idxs[(l24Idx t c).toNat]? with | some x => x | none => ⟨[], 0, 0⟩, true) else (⟨[], 0, 0⟩, false)
theorem idxFrom_le {α : Type} (p : α → Bool) : ∀ (l : List α) (k : Int), 0 ≤ k → 0 ≤ idxFrom p l k → k ≤ idxFrom p l k ∧ ∃ x, l[(idxFrom p l k - k).toNat]? = some x
  | [], k, hk, h => by simp [idxFrom] at h
  | x :: l, k, hk, h => by
    unfold idxFrom at h ⊢
    by_cases hp : p x = true
    · simp only [hp, if_true]; exact ⟨Int.le_refl _, x, by simp⟩
    · simp only [hp] at h ⊢
      obtain ⟨h1, y, h2⟩ := idxFrom_le p l (k + 1) (by omega) h
      refine ⟨by simp; omega, y, ?_⟩
      simp only [Bool.false_eq_true, if_false]
      rw [show (idxFrom p l (k + 1) - k).toNat = (idxFrom p l (k + 1) - (k + 1)).toNat + 1 by omega]
      simpa using h2
theorem idxFrom_get {α : Type} (p : α → Bool) (l : List α) (h : 0 ≤ idxFrom p l 0) : ∃ x, l[(idxFrom p l 0).toNat]? = some x := by
  have := (idxFrom_le p l 0 (Int.le_refl 0) h).2
  rwa [Int.sub_zero] at this
theorem idxFrom_congr {α : Type} {p q : α → Bool} (h : ∀ x, p x = q x) : ∀ (l : List α) (k : Int), idxFrom p l k = idxFrom q l k
  | [], _ => rfl
  | x :: l, k => by unfold idxFrom; rw [h, idxFrom_congr h l]
end Go.M

set_option linter.unusedVariables false
set_option linter.unusedSimpArgs false
namespace Go.M
theorem take_map_succ {α β : Type} {f : α → β} {l : List α} {i : Nat} {x : α} (h : l[i]? = some x) : (l.take i).map f ++ [f x] = (l.take (i + 1)).map f := by
  rw [List.take_add_one, h]; simp
def areRising (l : List Str) : Bool := l.all goodKey && adj Op.bytesLess l
def wKeys (l : List TWrite) : List Str := l.map TWrite.Key
def goodWrites (l : List TWrite) : Bool := decide ((l.length : Int) ≤ 24) && areRising (wKeys l) && !(l.any fun w => !isStored w.Val w.Gone)
def isRows (l : List TWrite) : Bool := goodWrites l && !(l.any TWrite.Gone)
def areInRange (m : TMove) (l : List TWrite) : Bool := isRows l && !(l.any fun w => !inRange m.Low m.High w.Key)
def goodMove (m : TMove) : Bool :=
  if (!areEnds m.Low m.High || !areInRange m m.From || !areInRange m m.To) = true then false
  else if m.Phase = 2 then ((m.From.length : Int) == 0) && m.Last == [] && !m.Over
  else (m.Phase == 1) && (m.Last == [] || goodKey m.Last)
def wLess (a b : TWrite) : Bool := Op.bytesLess a.Key b.Key
def wGood (w : TWrite) : Bool := l3Write w.Key w.Val w.Gone
def l3Writes (l : List TWrite) : Bool := (l.all wGood && adj wLess l) && decide ((l.length : Int) ≤ 24)
def l5Rows (l : List TWrite) : Bool := l.all (fun w => !w.Gone) && l3Writes l
def l22Rows (low high : Str) (l : List TWrite) : Bool := l.all (fun w => inRange low high w.Key) && l5Rows l
def goodMoveS (m : TMove) : Bool :=
  if (!l22Ends m.Low m.High || !within m.Phase 1 2 || !l22Rows m.Low m.High m.From || !l22Rows m.Low m.High m.To || m.Last != [] && !l3Key m.Last) = true then false
  else m.Phase == 1 || ((m.From.length : Int) == 0) && m.Last == [] && !m.Over
theorem adj_map {α β : Type} (f : α → β) (p : β → β → Bool) : ∀ l : List α, adj p (l.map f) = adj (fun a b => p (f a) (f b)) l
  | [] => rfl
  | [_] => rfl
  | x :: y :: l => by
    have := adj_map f p (y :: l)
    simp only [List.map_cons, adj] at *
    rw [this]
theorem goodWrites_eq (l : List TWrite) : goodWrites l = l3Writes l := by
  unfold goodWrites l3Writes areRising wKeys
  rw [adj_map, List.all_map, List.not_any_eq_all_not]
  have h2 : l.all wGood = ((l.all (goodKey ∘ TWrite.Key)) && l.all fun w => l3Val w.Val && (!w.Gone || w.Val == [])) := by
    induction l with
    | nil => rfl
    | cons w l ih =>
      simp only [List.all_cons, ih, wGood, l3Write, Function.comp, goodKey_eq, Bool.and_assoc]
      cases l3Key w.Key <;> cases l3Val w.Val <;> cases (!w.Gone || w.Val == []) <;> simp only [Bool.true_and, Bool.and_true, Bool.false_and, Bool.and_false]
  have h1 : (l.all fun w => !!isStored w.Val w.Gone) = l.all fun w => l3Val w.Val && (!w.Gone || w.Val == []) := by
    congr 1; funext w; rw [Bool.not_not, isStored_eq]
  rw [h1, h2]
  show _ = _
  have h3 : adj (fun a b => Op.bytesLess a.Key b.Key) l = adj wLess l := rfl
  rw [h3]
  cases l.all (goodKey ∘ TWrite.Key) <;> cases adj wLess l <;> cases decide ((l.length : Int) ≤ 24) <;> cases (l.all fun w => l3Val w.Val && (!w.Gone || w.Val == [])) <;> rfl
theorem isRows_eq (l : List TWrite) : isRows l = l5Rows l := by
  unfold isRows l5Rows
  rw [goodWrites_eq, List.not_any_eq_all_not, Bool.and_comm]
theorem areInRange_eq (m : TMove) (l : List TWrite) : areInRange m l = l22Rows m.Low m.High l := by
  unfold areInRange l22Rows
  rw [isRows_eq, List.not_any_eq_all_not, Bool.and_comm]
  congr 2; funext w; rw [Bool.not_not]
theorem goodMove_eq (m : TMove) : goodMove m = goodMoveS m := by
  unfold goodMove goodMoveS within
  rw [areInRange_eq, areInRange_eq, areEnds_eq, goodKey_eq]
  cases h1 : l22Ends m.Low m.High <;> cases h2 : l22Rows m.Low m.High m.From <;> cases h3 : l22Rows m.Low m.High m.To <;> simp
  by_cases h4 : m.Phase = 2
  · simp [h4]
    cases h5 : l3Key m.Last <;> cases h6 : m.Last <;> simp
  · by_cases h5 : m.Phase = 1
    · simp [h5]
      cases h5 : l3Key m.Last <;> cases h6 : m.Last <;> simp
    · have e1 : (m.Phase == 1) = false := beq_false_of_ne h5
      by_cases h6 : m.Phase < 1
      · simp [h6, e1]; intro h; exact absurd h h4
      · have h7 : 2 < m.Phase := by omega
        simp [h7, e1]; intro h; exact absurd h h4
end Go.M

set_option linter.unusedVariables false
set_option linter.unusedSimpArgs false
namespace Go.M
theorem bytesLess_trans : ∀ {a b c : Str}, Op.bytesLess a b = true → Op.bytesLess b c = true → Op.bytesLess a c = true
  | [], b, c, h1, h2 => by
    cases c with
    | nil => cases b <;> simp [Op.bytesLess] at h2
    | cons z c => rfl
  | x :: a, [], _, h1, _ => by simp [Op.bytesLess] at h1
  | x :: a, y :: b, [], _, h2 => by simp [Op.bytesLess] at h2
  | x :: a, y :: b, z :: c, h1, h2 => by
    simp only [Op.bytesLess, Bool.or_eq_true, Bool.and_eq_true, decide_eq_true_eq, beq_iff_eq] at h1 h2 ⊢
    rcases h1 with h1 | ⟨h1, h1'⟩
    · rcases h2 with h2 | ⟨h2, _⟩
      · exact .inl (UInt8.lt_trans h1 h2)
      · subst h2; exact .inl h1
    · subst h1
      rcases h2 with h2 | ⟨h2, h2'⟩
      · exact .inl h2
      · exact .inr ⟨h2, bytesLess_trans h1' h2'⟩
theorem cmpStr_neg (a b : Str) : cmpStr a b < 0 ↔ Op.bytesLess a b = true := by
  unfold cmpStr
  cases h1 : Op.bytesLess a b
  · cases h2 : Op.bytesLess b a <;> simp
  · simp
theorem cmpStr_zero (a b : Str) : cmpStr a b = 0 ↔ a = b := by
  unfold cmpStr
  have h3 := bytesLess_tri a b
  cases h1 : Op.bytesLess a b
  · cases h2 : Op.bytesLess b a
    · rw [h1, h2] at h3; simp at h3; simp [h3]
    · simp; intro h; subst h; rw [h1] at h2; cases h2
  · simp; intro h; subst h; rw [bytesLess_irrefl] at h1; cases h1
/-- Where each element is below the next, it is below all that follow. -/
theorem adj_all {α : Type} {p : α → α → Bool} (tr : ∀ a b c, p a b = true → p b c = true → p a c = true) : ∀ {l : List α} {x : α}, adj p (x :: l) = true → ∀ y ∈ l, p x y = true
  | [], _, _, y, hy => by simp at hy
  | z :: l, x, h, y, hy => by
    simp only [adj, Bool.and_eq_true] at h
    rcases List.mem_cons.1 hy with rfl | hy
    · exact h.1
    · exact tr _ _ _ h.1 (adj_all tr h.2 y hy)
theorem adj_tail {α : Type} {p : α → α → Bool} {l : List α} {x : α} (h : adj p (x :: l) = true) : adj p l = true := by
  cases l with
  | nil => rfl
  | cons y l => simp only [adj, Bool.and_eq_true] at h; exact h.2
theorem adj_get {α : Type} {p : α → α → Bool} (tr : ∀ a b c, p a b = true → p b c = true → p a c = true) : ∀ {l : List α}, adj p l = true → ∀ {i j : Nat} {x y : α}, i < j → l[i]? = some x → l[j]? = some y → p x y = true
  | [], _, i, j, x, y, _, hx, _ => by simp at hx
  | z :: l, h, 0, j + 1, x, y, _, hx, hy => by
    simp at hx; subst hx
    exact adj_all tr h y (List.mem_of_getElem? (by simpa using hy))
  | z :: l, h, i + 1, j + 1, x, y, hij, hx, hy => adj_get tr (adj_tail h) (by omega : i < j) (by simpa using hx) (by simpa using hy)
/-- What the search by halves finds. -/
theorem bs_spec {α : Type} (f : α → Int) (l : List α) (down : ∀ (i j : Nat) (x y : α), i < j → l[i]? = some x → l[j]? = some y → f y < 0 → f x < 0) : ∀ (d i j : Nat), j - i = d → i ≤ j → j ≤ l.length →
    (∀ k x, k < i → l[k]? = some x → f x < 0) → (∀ x, l[j]? = some x → ¬ f x < 0) → (∀ k x, k < bs f l i j → l[k]? = some x → f x < 0) ∧ (∀ x, l[bs f l i j]? = some x → ¬ f x < 0) := by
  intro d
  induction d using Nat.strongRecOn with
  | _ d ih =>
    intro i j hd hij hjl hlo hhi
    by_cases h : i < j
    · obtain ⟨x, hx⟩ := Go.AV.get_some (show (i + j) / 2 < l.length by omega)
      by_cases hf : f x < 0
      · rw [bs_lo h hx hf]
        refine ih (j - ((i + j) / 2 + 1)) (by omega) _ _ rfl (by omega) hjl (fun k y hk hy => ?_) hhi
        rcases Nat.lt_or_ge k ((i + j) / 2) with h1 | h1
        · exact down k _ y x h1 hy hx hf
        · have : k = (i + j) / 2 := by omega
          subst this
          rw [hx] at hy; injection hy with hy; subst hy; exact hf
      · rw [bs_hi h hx hf]
        exact ih ((i + j) / 2 - i) (by omega) _ _ rfl (by omega) (by omega) hlo (fun y hy => by rw [hx] at hy; injection hy with hy; subst hy; exact hf)
    · rw [bs_end h]
      have : i = j := by omega
      subst this
      exact ⟨hlo, hhi⟩
def wCmp (k : Str) (w : TWrite) : Int := cmpStr w.Key k
def wPos (l : List TWrite) (k : Str) : Nat := bs (wCmp k) l 0 l.length
def wHas (l : List TWrite) (k : Str) : Bool := bsAt (wCmp k) l (wPos l k)
theorem wLess_trans (a b c : TWrite) (h : wLess a b = true) (k : wLess b c = true) : wLess a c = true := bytesLess_trans h k
theorem wPos_spec {l : List TWrite} (h : adj wLess l = true) (k : Str) : (∀ i x, i < wPos l k → l[i]? = some x → Op.bytesLess x.Key k = true) ∧ (∀ x, l[wPos l k]? = some x → Op.bytesLess x.Key k = false) := by
  have := bs_spec (wCmp k) l (fun i j x y hij hx hy hf => by
    unfold wCmp at *
    rw [cmpStr_neg] at *
    exact bytesLess_trans (adj_get wLess_trans h hij hx hy) hf) l.length 0 l.length rfl (Nat.zero_le _) (Nat.le_refl _) (fun k x hk => by omega) (fun x hx => by rw [List.getElem?_eq_none (Nat.le_refl _)] at hx; cases hx)
  refine ⟨fun i x hi hx => (cmpStr_neg _ _).1 (this.1 i x hi hx), fun x hx => ?_⟩
  have h2 := this.2 x hx
  unfold wCmp at h2
  rw [cmpStr_neg] at h2
  simpa using h2
/-- The first write of a key. -/
def findW (l : List TWrite) (k : Str) : Option TWrite := l.find? fun w => w.Key == k
theorem findW_eq {l : List TWrite} (h : adj wLess l = true) (k : Str) : findW l k = if wHas l k = true then l[wPos l k]? else none := by
  obtain ⟨h1, h2⟩ := wPos_spec h k
  have hat : ∀ w ∈ l, w.Key = k → l[wPos l k]? = some w := fun w hw he => by
    obtain ⟨i, hi⟩ := List.getElem?_of_mem hw
    rcases Nat.lt_trichotomy i (wPos l k) with hlt | heq | hgt
    · have := h1 i w hlt hi
      rw [he, bytesLess_irrefl] at this; cases this
    · rw [← heq]; exact hi
    · obtain ⟨y, hy⟩ := Go.AV.get_some (show wPos l k < l.length by have := (List.getElem?_eq_some_iff.1 hi).1; omega)
      have h3 := h2 y hy
      have h4 := adj_get wLess_trans h hgt hy hi
      unfold wLess at h4
      rw [he, h3] at h4; cases h4
  unfold wHas bsAt findW
  cases hp : l[wPos l k]? with
  | none =>
    simp only [Bool.false_eq_true, if_false]
    rw [List.find?_eq_none]
    intro w hw
    simp only [beq_iff_eq]
    intro he
    have := hat w hw he
    rw [hp] at this; cases this
  | some y =>
    simp only [wCmp, beq_iff_eq, cmpStr_zero]
    by_cases hk : y.Key = k
    · rw [if_pos hk]
      cases hf : l.find? fun w => w.Key == k with
      | none =>
        have := List.find?_eq_none.1 hf y (List.mem_of_getElem? hp)
        simp [hk] at this
      | some w =>
        have h5 := List.find?_some hf
        have h6 := hat w (List.mem_of_find?_eq_some hf) (by simpa using h5)
        rw [hp] at h6; exact h6.symm
    · rw [if_neg hk, List.find?_eq_none]
      intro w hw
      simp only [beq_iff_eq]
      intro he
      have := hat w hw he
      rw [hp] at this; injection this with this; subst this; exact hk he
def gotOf (l : List TWrite) (k : Str) : TGot := if wHas l k = true then (match l[wPos l k]? with | some w => ⟨k, w.Val, true⟩ | none => ⟨k, [], true⟩) else ⟨k, [], false⟩
def readMove (m : TMove) (k : Str) : Str × Bool × Int × Bool :=
  if (!goodMove m || !goodKey k || !inRange m.Low m.High k) = true then ([], false, 0, false)
  else ((gotOf (if m.Phase = 2 then m.To else m.From) k).Val, (gotOf (if m.Phase = 2 then m.To else m.From) k).There, m.Phase, true)
def readRes (o : Option TWrite) (p : Int) : Str × Bool × Int × Bool := match o with
  | some w => (w.Val, true, p, true)
  | none => ([], false, p, true)
def readMoveS (m : TMove) (k : Str) : Str × Bool × Int × Bool :=
  if (!goodMoveS m || !l3Key k || !inRange m.Low m.High k) = true then ([], false, 0, false)
  else readRes (findW (if m.Phase = 2 then m.To else m.From) k) m.Phase
theorem rows_adj {m : TMove} {l : List TWrite} (h : areInRange m l = true) : adj wLess l = true := by
  unfold areInRange isRows at h
  simp only [Bool.and_eq_true] at h
  have h1 := h.1.1
  rw [goodWrites_eq] at h1
  unfold l3Writes at h1
  simp only [Bool.and_eq_true] at h1
  exact h1.1.2
theorem goodMove_rows {m : TMove} (h : goodMove m = true) : areEnds m.Low m.High = true ∧ areInRange m m.From = true ∧ areInRange m m.To = true := by
  unfold goodMove at h
  split at h
  · cases h
  · rename_i hh
    simpa [Bool.or_eq_true, not_or, and_assoc] using hh
theorem readMove_eq (m : TMove) (k : Str) : readMove m k = readMoveS m k := by
  unfold readMove readMoveS
  rw [goodMove_eq, goodKey_eq]
  split
  · rfl
  · rename_i hh
    have hg : goodMove m = true := by
      rw [goodMove_eq]
      cases h : goodMoveS m
      · rw [h] at hh; simp at hh
      · rfl
    obtain ⟨_, h1, h2⟩ := goodMove_rows hg
    have ha : adj wLess (if m.Phase = 2 then m.To else m.From) = true := by split; exact rows_adj h2; exact rows_adj h1
    generalize (if m.Phase = 2 then m.To else m.From) = l at *
    rw [findW_eq ha]
    unfold gotOf
    cases hw : wHas l k
    · simp [readRes]
    · simp only [if_true]
      unfold wHas bsAt at hw
      cases hp : l[wPos l k]? with
      | none => rw [hp] at hw; cases hw
      | some w => rfl
def noWrite : TWrite := ⟨[], [], false⟩
def wEq (a b : TWrite) : Bool := (a.Key == b.Key) && ((a.Val == b.Val) && ((a.Gone == b.Gone) && true))
theorem wEq_dec (a b : TWrite) : wEq a b = decide (a = b) := by
  unfold wEq; cases a; cases b; simp only [TWrite.mk.injEq, Bool.and_true]
  rw [Bool.eq_iff_iff]; simp
def isMoveAct (m : TMove) (a : TMoveAct) : Bool :=
  if a.Kind = 1 then (a.Many == 0) && goodWrites [a.Write] && inRange m.Low m.High a.Write.Key
  else if a.Kind = 2 then wEq a.Write noWrite && within a.Many 1 24
  else if a.Kind = 3 ∨ a.Kind = 4 then wEq a.Write noWrite && (a.Many == 0)
  else false
def l22Good (m : TMove) (a : TMoveAct) : Bool :=
  if a.Kind = 1 then l3Write a.Write.Key a.Write.Val a.Write.Gone && inRange m.Low m.High a.Write.Key && (a.Many == 0)
  else if a.Kind = 2 then wEq a.Write noWrite && within a.Many 1 24
  else if a.Kind = 3 ∨ a.Kind = 4 then wEq a.Write noWrite && (a.Many == 0)
  else false
theorem isMoveAct_eq (m : TMove) (a : TMoveAct) : isMoveAct m a = l22Good m a := by
  unfold isMoveAct l22Good
  have h : goodWrites [a.Write] = l3Write a.Write.Key a.Write.Val a.Write.Gone := by
    rw [goodWrites_eq]; unfold l3Writes wGood; simp [adj]
  rw [h]
  split
  · cases (a.Many == 0) <;> cases l3Write a.Write.Key a.Write.Val a.Write.Gone <;> cases inRange m.Low m.High a.Write.Key <;> rfl
  · rfl
end Go.M

set_option linter.unusedVariables false
set_option linter.unusedSimpArgs false
namespace Go.M
def goodPlaces (p : TPlaces) : Bool := within p.Ver 0 50 && decide ((p.Cuts.length : Int) ≤ 4) && areRising p.Cuts && ((p.Groups.length : Int) == (p.Cuts.length : Int) + 1) && !(p.Groups.any fun g => !isGroup g)
def goodPlacesS (p : TPlaces) : Bool := (p.Cuts.all l3Key && adj Op.bytesLess p.Cuts) && (within p.Ver 0 50 && decide ((p.Cuts.length : Int) ≤ 4) && ((p.Groups.length : Int) == (p.Cuts.length : Int) + 1) && p.Groups.all fun g => within g 0 3)
theorem goodPlaces_eq (p : TPlaces) : goodPlaces p = goodPlacesS p := by
  unfold goodPlaces goodPlacesS areRising isGroup
  rw [List.not_any_eq_all_not]
  have h1 : p.Cuts.all goodKey = p.Cuts.all l3Key := by congr 1; funext k; exact goodKey_eq k
  have h2 : (p.Groups.all fun g => !!within g 0 3) = p.Groups.all fun g => within g 0 3 := by congr 1; funext g; rw [Bool.not_not]
  rw [h1, h2]
  cases p.Cuts.all l3Key <;> cases adj Op.bytesLess p.Cuts <;> cases within p.Ver 0 50 <;> cases decide ((p.Cuts.length : Int) ≤ 4) <;> cases ((p.Groups.length : Int) == (p.Cuts.length : Int) + 1) <;> simp
theorem good_facts {p : TPlaces} (h : goodPlaces p = true) : 0 ≤ p.Ver ∧ p.Ver ≤ 50 ∧ p.Cuts.length ≤ 4 ∧ p.Groups.length = p.Cuts.length + 1 ∧ adj Op.bytesLess p.Cuts = true ∧ p.Cuts.all goodKey = true := by
  unfold goodPlaces areRising within at h
  simp only [Bool.and_eq_true, decide_eq_true_eq, beq_iff_eq] at h
  obtain ⟨⟨⟨⟨⟨h1, h2⟩, h3⟩, h4, h5⟩, h6⟩, _⟩ := h
  exact ⟨h1, h2, by omega, by omega, h5, h4⟩
def sle (a b : Str) : Bool := Op.bytesLess a b || a == b
def partOf (cuts : List Str) (key : Str) : Nat := (cuts.filter fun c => sle c key).length
def rangeS (cuts : List Str) (key : Str) : Nat := (cuts.takeWhile fun c => sle c key).length
theorem sle_trans {a b c : Str} (h : Op.bytesLess a b = true) (k : sle b c = true) : sle a c = true := by
  unfold sle at *
  simp only [Bool.or_eq_true, beq_iff_eq] at *
  rcases k with k | k
  · exact .inl (bytesLess_trans h k)
  · subst k; exact .inl h
theorem partOf_eq (key : Str) : ∀ {cuts : List Str}, adj Op.bytesLess cuts = true → partOf cuts key = rangeS cuts key
  | [], _ => rfl
  | c :: cuts, h => by
    have ih := partOf_eq key (adj_tail h)
    unfold partOf rangeS at *
    cases hc : sle c key with
    | true => simp [hc, ih]
    | false =>
      have hall : ∀ d ∈ cuts, sle d key = false := fun d hd => by
        have := adj_all (p := Op.bytesLess) (fun a b c h1 h2 => bytesLess_trans h1 h2) h d hd
        cases hk : sle d key with
        | false => rfl
        | true => rw [sle_trans this hk] at hc; cases hc
      have hf : cuts.filter (fun c => sle c key) = [] := List.filter_eq_nil_iff.2 fun d hd => by rw [hall d hd]; simp
      simp [hc, hf]
theorem partOf_le (cuts : List Str) (key : Str) : partOf cuts key ≤ cuts.length := List.length_filter_le _ _
theorem rangeS_le (cuts : List Str) (key : Str) : rangeS cuts key ≤ cuts.length := by
  unfold rangeS
  exact (List.takeWhile_sublist _).length_le
theorem tw_at {α : Type} {p : α → Bool} : ∀ {l : List α} {i : Nat} {x : α}, (l.takeWhile p).length = i → l[i]? = some x → p x = false
  | [], i, x, _, h => by simp at h
  | y :: l, i, x, h, hx => by
    cases hy : p y with
    | false => simp [hy] at h; subst h; simp at hx; subst hx; exact hy
    | true =>
      simp [hy] at h
      subst h
      exact tw_at rfl (by simpa using hx)
theorem tw_ge {α : Type} {p : α → Bool} {l : List α} {i : Nat} {x : α} (h : i ≤ (l.takeWhile p).length) (hx : l[i]? = some x) (hp : p x = true) : i + 1 ≤ (l.takeWhile p).length := by
  rcases Nat.lt_or_ge i (l.takeWhile p).length with h1 | h1
  · exact h1
  · have := tw_at (p := p) (l := l) (i := i) (x := x) (by omega) hx; rw [this] at hp; cases hp
theorem tw_eq {α : Type} {p : α → Bool} : ∀ {l : List α} {i : Nat} {x : α}, i ≤ (l.takeWhile p).length → l[i]? = some x → p x = false → (l.takeWhile p).length = i
  | [], i, x, _, hx, _ => by simp at hx
  | y :: l, i, x, h, hx, hp => by
    cases hy : p y with
    | false => simp [hy] at h ⊢; omega
    | true =>
      simp [hy] at h ⊢
      cases i with
      | zero => simp at hx; subst hx; rw [hy] at hp; cases hp
      | succ i => have := tw_eq (l := l) (i := i) (by omega) (by simpa using hx) hp; omega
def noPlaces : TPlaces := ⟨0, [], []⟩
def gAt (p : TPlaces) (i : Int) : Int := p.Groups.getD i.toNat 0
def isRange (p : TPlaces) (i : Int) : Bool := goodPlaces p && within i 0 ((p.Groups.length : Int) - 1)
theorem isRange_facts {p : TPlaces} {i : Int} (h : isRange p i = true) : goodPlaces p = true ∧ 0 ≤ i ∧ i < p.Groups.length := by
  unfold isRange within at h
  simp only [Bool.and_eq_true, decide_eq_true_eq] at h
  exact ⟨h.1, h.2.1, by omega⟩
def bump (p : TPlaces) : TPlaces := ⟨p.Ver + 1, p.Cuts, p.Groups⟩
def nextP (p : TPlaces) : TPlaces × Bool := if (!goodPlaces (bump p)) = true then (noPlaces, false) else (bump p, true)
def nextS (p : TPlaces) : TPlaces × Bool := if (!goodPlacesS (bump p)) = true then (noPlaces, false) else (bump p, true)
theorem nextP_eq (p : TPlaces) : nextP p = nextS p := by unfold nextP nextS; rw [goodPlaces_eq]
def insP (p : TPlaces) (n : Nat) (key : Str) : TPlaces := ⟨p.Ver, p.Cuts.take n ++ key :: p.Cuts.drop n, p.Groups.take n ++ p.Groups.getD n 0 :: p.Groups.drop n⟩
def splitAt (p : TPlaces) (key : Str) : TPlaces × Bool := if (!goodPlaces p || !goodKey key || p.Cuts.any fun x => key == x) = true then (noPlaces, false) else nextP (insP p (partOf p.Cuts key) key)
def splitAtS (p : TPlaces) (key : Str) : TPlaces × Bool := if (!goodPlacesS p || !l3Key key || p.Cuts.any (fun x => key == x) || decide (4 ≤ (p.Cuts.length : Int))) = true then (noPlaces, false) else nextS (insP p (rangeS p.Cuts key) key)
def delP (p : TPlaces) (n : Nat) : TPlaces := ⟨p.Ver, p.Cuts.eraseIdx n, p.Groups.eraseIdx n⟩
def joinAt (p : TPlaces) (i : Int) : TPlaces × Bool := if (!isRange p i || !isRange p (i + 1) || gAt p i != gAt p (i + 1)) = true then (noPlaces, false) else nextP (delP p i.toNat)
def joinAtS (p : TPlaces) (i : Int) : TPlaces × Bool := if (!goodPlacesS p || !within i 0 ((p.Cuts.length : Int) - 1) || gAt p i != gAt p (i + 1)) = true then (noPlaces, false) else nextS (delP p i.toNat)
def setP (p : TPlaces) (n : Nat) (g : Int) : TPlaces := ⟨p.Ver, p.Cuts, p.Groups.set n g⟩
def giveTo (p : TPlaces) (i g : Int) : TPlaces × Bool := if (!isRange p i || !isGroup g || gAt p i == g) = true then (noPlaces, false) else nextP (setP p i.toNat g)
def giveToS (p : TPlaces) (i g : Int) : TPlaces × Bool := if (!goodPlacesS p || !within i 0 ((p.Groups.length : Int) - 1) || !within g 0 3 || gAt p i == g) = true then (noPlaces, false) else nextS (setP p i.toNat g)
theorem splitAt_eq (p : TPlaces) (key : Str) : splitAt p key = splitAtS p key := by
  unfold splitAt splitAtS
  rw [← goodPlaces_eq, ← goodKey_eq]
  cases hg : goodPlaces p with
  | false => simp
  | true =>
    obtain ⟨_, _, h3, h4, h5, _⟩ := good_facts hg
    rw [← partOf_eq key h5]
    by_cases h : (!goodKey key || p.Cuts.any fun x => key == x) = true
    · rw [if_pos (by simpa using h), if_pos (by simp only [Bool.not_true, Bool.false_or, Bool.or_eq_true] at h ⊢; exact .inl h)]
    · rw [if_neg (by simpa using h)]
      by_cases h6 : 4 ≤ (p.Cuts.length : Int)
      · rw [if_pos (by simp [h6])]
        unfold nextP
        rw [if_pos]
        have hn := partOf_le p.Cuts key
        have : goodPlaces (bump (insP p (partOf p.Cuts key) key)) = false := by
          cases hgg : goodPlaces (bump (insP p (partOf p.Cuts key) key)) with
          | false => rfl
          | true =>
            have := (good_facts hgg).2.2.1
            simp [bump, insP] at this
            omega
        rw [this]; rfl
      · rw [if_neg (by simp only [Bool.not_true, Bool.false_or, Bool.or_eq_true, not_or] at h ⊢; exact ⟨h, by simpa using h6⟩), nextP_eq]
theorem joinAt_eq (p : TPlaces) (i : Int) : joinAt p i = joinAtS p i := by
  unfold joinAt joinAtS isRange
  rw [← goodPlaces_eq]
  cases hg : goodPlaces p with
  | false => simp
  | true =>
    obtain ⟨_, _, _, h4, _⟩ := good_facts hg
    have hc : (!within i 0 ((p.Groups.length : Int) - 1) || !within (i + 1) 0 ((p.Groups.length : Int) - 1)) = !within i 0 ((p.Cuts.length : Int) - 1) := by
      unfold within
      rw [Bool.eq_iff_iff]
      simp only [Bool.or_eq_true, Bool.not_eq_true', Bool.and_eq_false_iff, decide_eq_false_iff_not]
      omega
    simp only [Bool.true_and, Bool.not_true, Bool.false_or]
    rw [hc, nextP_eq]
theorem giveTo_eq (p : TPlaces) (i g : Int) : giveTo p i g = giveToS p i g := by
  unfold giveTo giveToS isRange isGroup
  rw [← goodPlaces_eq, nextP_eq]
  cases goodPlaces p <;> simp [Bool.or_assoc]
def samePlaces (a b : TPlaces) : Bool := (a.Ver == b.Ver) && decide (a.Cuts = b.Cuts) && decide (a.Groups = b.Groups)
def hit (r : TPlaces × Bool) (b : TPlaces) : Bool := r.2 && samePlaces r.1 b
def anyI {α : Type} (f : Nat → α → Bool) : List α → Nat → Bool
  | [], _ => false
  | x :: l, k => f k x || anyI f l (k + 1)
theorem anyI_congr {α : Type} {f g : Nat → α → Bool} : ∀ (l : List α) (k : Nat), (∀ i x, l[i]? = some x → f (k + i) x = g (k + i) x) → anyI f l k = anyI g l k
  | [], _, _ => rfl
  | x :: l, k, h => by
    unfold anyI
    have h2 := anyI_congr (f := f) (g := g) l (k + 1) fun i y hy => by
      have h9 := h (i + 1) y (by simpa using hy)
      have e : k + (i + 1) = k + 1 + i := by omega
      rw [e] at h9
      exact h9
    have h3 : f k x = g k x := h 0 x rfl
    rw [h3, h2]
def ra (f : Int → Bool) (k : Nat) : Bool := (List.range' k (4 - k)).any fun j => f (j : Int)
theorem ra_step {f : Int → Bool} {k : Nat} (h : k < 4) : ra f k = (f k || ra f (k + 1)) := by
  unfold ra
  rw [show 4 - k = (4 - (k + 1)) + 1 by omega, List.range'_succ]
  rfl
theorem ra_end {f : Int → Bool} {k : Nat} (h : 4 ≤ k) : ra f k = false := by
  unfold ra
  rw [show 4 - k = 0 by omega]
  rfl
def nextAt (a b : TPlaces) (i : Nat) (g : Int) : Bool := hit (joinAt a i) b || ra (fun k => k != g && hit (giveTo a i k) b) 0
def isNext (a b : TPlaces) : Bool := b.Cuts.any (fun k => hit (splitAt a k) b) || anyI (nextAt a b) a.Groups 0
def nextAtS (a b : TPlaces) (i : Nat) (_ : Int) : Bool := hit (joinAtS a i) b || ra (fun k => hit (giveToS a i k) b) 0
def isNextS (a b : TPlaces) : Bool := b.Cuts.any (fun k => hit (splitAtS a k) b) || anyI (nextAtS a b) a.Groups 0
theorem give_self {a b : TPlaces} {i : Nat} {g : Int} (h : a.Groups[i]? = some g) : hit (giveTo a i g) b = false := by
  unfold hit giveTo gAt
  have : (a.Groups.getD (i : Int).toNat 0 == g) = true := by
    rw [Int.toNat_natCast, List.getD_eq_getElem?_getD, h]; simp
  rw [this]
  simp
theorem isNext_eq (a b : TPlaces) : isNext a b = isNextS a b := by
  unfold isNext isNextS
  have h1 : (fun k => hit (splitAt a k) b) = fun k => hit (splitAtS a k) b := by funext k; rw [splitAt_eq]
  rw [h1]
  congr 1
  refine anyI_congr _ _ fun i g hg => ?_
  rw [Nat.zero_add]
  unfold nextAt nextAtS
  rw [joinAt_eq]
  congr 2
  funext k
  rw [← giveTo_eq]
  by_cases hk : k = g
  · subst hk; rw [give_self hg]; simp
  · simp [hk]
def isNextR (a b : TPlaces) : Bool × Bool := if (!goodPlaces a || !goodPlaces b) = true then (false, false) else (isNext a b, true)
def isNextRS (a b : TPlaces) : Bool × Bool := if (!goodPlacesS a || !goodPlacesS b) = true then (false, false) else (isNextS a b, true)
theorem isNextR_eq (a b : TPlaces) : isNextR a b = isNextRS a b := by unfold isNextR isNextRS; rw [goodPlaces_eq, goodPlaces_eq, isNext_eq]
theorem sizeL_ins {α : Type} (f : α → Nat) (l : List α) (n : Nat) (x : α) : sizeL f (l.take n ++ x :: l.drop n) = sizeL f l + f x + 1 := by
  have h : ((l.take n).map f).sum + ((l.drop n).map f).sum = (l.map f).sum := by
    rw [← List.sum_append, ← List.map_append, List.take_append_drop]
  unfold sizeL
  simp only [List.length_append, List.length_cons, List.map_append, List.map_cons, List.sum_append, List.sum_cons, List.length_take, List.length_drop]
  omega
theorem sum_sub {a b : List Nat} (h : List.Sublist a b) : a.sum ≤ b.sum := by
  induction h with
  | slnil => exact Nat.le_refl _
  | cons x _ ih => simp; omega
  | cons_cons x _ ih => simp; omega
theorem sizeL_sub {α : Type} {f : α → Nat} {l m : List α} (h : List.Sublist m l) : sizeL f m ≤ sizeL f l := by
  unfold sizeL
  have h1 := h.length_le
  have h2 : (m.map f).sum ≤ (l.map f).sum := sum_sub (h.map f)
  omega
theorem insC_eq {β : Type} {f : Str → β} (l : List Str) (n : Nat) (x : Str) : (([] : List β) ++ (l.take n).map f ++ [f x] ++ (l.drop n).map f) = (l.take n ++ x :: l.drop n).map f := by simp
theorem insG_eq {β : Type} {f : Int → β} {l : List Int} {n : Nat} {y : Int} (h : l[n]? = some y) : ((l.take (n + 1)).map f ++ [f y] ++ (l.drop (n + 1)).map f) = (l.take n ++ l.getD n 0 :: l.drop n).map f := by
  rw [List.getD_eq_getElem?_getD, h, List.take_add_one, h, Go.AV.drop_some h]; simp
theorem delC_eq {α β : Type} {f : α → β} (l : List α) (n : Nat) : (([] : List β) ++ (l.take n).map f ++ (l.drop (n + 1)).map f) = (l.eraseIdx n).map f := by
  rw [List.eraseIdx_eq_take_drop_succ]; simp
theorem bump_size (p : TPlaces) : (bump p).size = p.size := rfl
theorem insP_size (p : TPlaces) (n : Nat) (key : Str) : (insP p n key).size = p.size + key.length + 2 := by
  unfold TPlaces.size insP
  rw [sizeL_ins]
  simp only [List.length_append, List.length_cons, List.length_take, List.length_drop]
  omega
theorem delP_size (p : TPlaces) (n : Nat) : (delP p n).size ≤ p.size := by
  unfold TPlaces.size delP
  have h1 := sizeL_sub (f := fun x : Str => x.length) (List.eraseIdx_sublist p.Cuts n)
  have h2 := (List.eraseIdx_sublist p.Groups n).length_le
  exact Nat.add_le_add h1 h2
theorem setP_size (p : TPlaces) (n : Nat) (g : Int) : (setP p n g).size = p.size := by unfold TPlaces.size setP; rw [List.length_set]
end Go.M

set_option linter.unusedVariables false
set_option linter.unusedSimpArgs false
namespace Go.M
open Go.AV
abbrev decD (n : Nat) : Str := Lib.decDigits n
abbrev itoaD (n : Int) : Str := Lib.itoa n
theorem decD_small {n : Nat} (h : n < 10) : decD n = [UInt8.ofNat (48 + n)] := Lib.decDigits_one h
theorem decD_big {n : Nat} (h : ¬ n < 10) : decD n = decD (n / 10) ++ [UInt8.ofNat (48 + n % 10)] := by
  show Lib.decDigits n = _
  rw [Lib.decDigits, dif_neg h]
theorem decD_len : ∀ {k n : Nat}, n < 10 ^ k → 1 ≤ k → (decD n).length ≤ k
  | 0, _, _, h => by omega
  | k + 1, n, h, _ => by
    by_cases hn : n < 10
    · rw [decD_small hn]; simp
    · rw [decD_big hn, List.length_append]
      have : k ≠ 0 := by rintro rfl; simp at h; omega
      have h2 := decD_len (k := k) (n := n / 10) (by rw [Nat.pow_succ] at h; omega) (by omega)
      simp only [List.length_cons, List.length_nil]; omega
theorem itoa_nat (n : Nat) : itoaD n = decD n := Lib.itoa_nonneg n
theorem itoa_pos {n : Int} (h : 0 ≤ n) : itoaD n = decD n.toNat := by
  obtain ⟨m, rfl⟩ : ∃ m : Nat, n = (m : Int) := ⟨n.toNat, by omega⟩
  rw [itoa_nat]; rfl
theorem itoa_len {n : Int} (h : 0 ≤ n ∧ n ≤ 1000000) : (itoaD n).length ≤ 7 := by
  rw [itoa_pos h.1]
  exact decD_len (by omega) (by decide)
theorem u8w2 {x : Int} {m : Nat} (h : x % 256 = ((m % 256 : Nat) : Int)) : IntKind.u8.wrap x = ((UInt8.ofNat m).toNat : Int) := by
  have : (UInt8.ofNat m).toNat = m % 256 := by simp
  rw [this, ← h]
  simp [IntKind.wrap, IntKind.bits, IntKind.signed]
theorem dig1 (n : Nat) : IntKind.u8.wrap (48 + (n : Int)) = ((UInt8.ofNat (48 + n)).toNat : Int) := u8w2 (by omega)
theorem tmod10 (n : Nat) : (n : Int).tmod 10 = ((n % 10 : Nat) : Int) := rfl
theorem dig2 (n : Nat) : IntKind.u8.wrap (48 + (n : Int).tmod 10) = ((UInt8.ofNat (48 + n % 10)).toNat : Int) := by
  rw [show (n : Int).tmod 10 = ((n % 10 : Nat) : Int) from rfl]; exact u8w2 (by omega)
theorem quo10 {n : Nat} (h : n ≤ 1000000000000) : IntKind.i64.wrap ((n : Int).tdiv 10) = ((n / 10 : Nat) : Int) := by
  rw [show (n : Int).tdiv 10 = ((n / 10 : Nat) : Int) from rfl]
  have h2 : n / 10 ≤ 1000000000000 := by omega
  simp [IntKind.wrap, IntKind.bits, IntKind.signed]
  omega
def lineB (c : TFeedItem) : Str := if c.Gone = true then ((((itoaD c.Time ++ [32]) ++ itoaD c.Group) ++ [32]) ++ c.Key) ++ [33] else (((((itoaD c.Time ++ [32]) ++ itoaD c.Group) ++ [32]) ++ c.Key) ++ [61]) ++ c.Val
theorem goodItem_nums {c : TFeedItem} (h : goodItem c = true) : (0 ≤ c.Time ∧ c.Time ≤ 100000) ∧ (0 ≤ c.Group ∧ c.Group ≤ 3) := by
  unfold goodItem isTime isGroup within at h
  simp at h
  omega
def feedLineR (c : TFeedItem) : Str × Bool := if (!goodItem c) = true then ([], false) else (lineB c, true)
end Go.M

set_option linter.unusedVariables false
set_option linter.unusedSimpArgs false
namespace Go.M
open Go.AV
def plB (p : TPlaces) : Nat → Str
  | 0 => decD p.Ver.toNat ++ [32]
  | i + 1 => (if 0 < i then plB p i ++ (([124] ++ (p.Cuts[i - 1]?).getD []) ++ [124]) else plB p i) ++ decD ((p.Groups[i]?).getD 0).toNat
theorem plB_next {p : TPlaces} {i g : Nat} {c : Str} (hg : p.Groups[i]? = some (g : Int)) (h : 0 < i) (hc : p.Cuts[i - 1]? = some c) : (plB p i ++ (([124] ++ c) ++ [124])) ++ decD g = plB p (i + 1) := by
  show _ = (if 0 < i then plB p i ++ (([124] ++ (p.Cuts[i - 1]?).getD []) ++ [124]) else plB p i) ++ decD ((p.Groups[i]?).getD 0).toNat
  rw [if_pos h, hc, hg]; rfl
theorem plB_first {p : TPlaces} {i g : Nat} (hg : p.Groups[i]? = some (g : Int)) (h : ¬ 0 < i) : plB p i ++ decD g = plB p (i + 1) := by
  show _ = (if 0 < i then plB p i ++ (([124] ++ (p.Cuts[i - 1]?).getD []) ++ [124]) else plB p i) ++ decD ((p.Groups[i]?).getD 0).toNat
  rw [if_neg h, hg]; rfl
theorem pg_groups {p : TPlaces} (h : goodPlaces p = true) : ∀ g ∈ p.Groups, 0 ≤ g ∧ g ≤ 3 := by
  unfold goodPlaces at h
  simp only [Bool.and_eq_true, Bool.not_eq_true'] at h
  intro g hg
  have h2 := List.any_eq_false.1 h.2 g hg
  unfold isGroup within at h2
  simp at h2
  omega
theorem plB_len {p : TPlaces} (h : goodPlaces p = true) (hc : ∀ c ∈ p.Cuts, c.length ≤ 4194304) : ∀ i, (plB p i).length ≤ 10 + i * 4194324
  | 0 => by
    have hf := good_facts h
    have := decD_len (k := 7) (n := p.Ver.toNat) (by omega) (by decide)
    show (decD p.Ver.toNat ++ [32]).length ≤ _
    rw [List.length_append]; simp only [List.length_cons, List.length_nil]; omega
  | i + 1 => by
    have ih := plB_len h hc i
    have h1 : ((p.Cuts[i - 1]?).getD []).length ≤ 4194304 := by
      cases hx : p.Cuts[i - 1]? with
      | none => simp
      | some c => exact hc c (List.mem_of_getElem? hx)
    have h2 : (decD ((p.Groups[i]?).getD 0).toNat).length ≤ 7 := by
      cases hx : p.Groups[i]? with
      | none => exact decD_len (by decide) (by decide)
      | some g =>
        have := pg_groups h g (List.mem_of_getElem? hx)
        exact decD_len (show g.toNat < _ by omega) (by decide)
    show ((if 0 < i then plB p i ++ (([124] ++ (p.Cuts[i - 1]?).getD []) ++ [124]) else plB p i) ++ decD ((p.Groups[i]?).getD 0).toNat).length ≤ _
    rw [List.length_append]
    split
    · rw [List.length_append, List.length_append, List.length_append]; simp only [List.length_cons, List.length_nil]; omega
    · omega
def placesB (p : TPlaces) : Str := plB p p.Groups.length
def placesTextR (p : TPlaces) : Str × Bool := if (!goodPlaces p) = true then ([], false) else (placesB p, true)
end Go.M

set_option linter.unusedVariables false
set_option linter.unusedSimpArgs false
namespace Go.M
open Go.AV
def addP (p : Str) : List Str → List Str
  | [] => [p]
  | w :: ws => (p ++ w) :: ws
def splitC (c : UInt8) : Str → List Str
  | [] => [[]]
  | b :: s => if b = c then [] :: splitC c s else addP [b] (splitC c s)
theorem splitC_cons (c b : UInt8) (s : Str) : splitC c (b :: s) = if b = c then [] :: splitC c s else addP [b] (splitC c s) := rfl
theorem splitC_ne (c : UInt8) (s : Str) : splitC c s ≠ [] := by
  cases s with
  | nil => simp [splitC]
  | cons b s =>
    unfold splitC
    split
    · simp
    · cases splitC c s <;> simp [addP]
theorem addP_nil {ws : List Str} (h : ws ≠ []) : addP [] ws = ws := by
  cases ws with
  | nil => exact absurd rfl h
  | cons w ws => rfl
theorem addP_add (p q : Str) (ws : List Str) : addP p (addP q ws) = addP (p ++ q) ws := by
  cases ws <;> simp [addP]
theorem splitC_no {c : UInt8} : ∀ {s : Str}, c ∉ s → splitC c s = [s]
  | [], _ => rfl
  | b :: s, h => by
    unfold splitC
    rw [if_neg (fun e => h (by rw [e]; exact List.mem_cons_self)), splitC_no fun hm => h (List.mem_cons_of_mem _ hm)]; rfl
theorem splitC_app {c : UInt8} : ∀ {a : Str} (s : Str), c ∉ a → splitC c (a ++ c :: s) = a :: splitC c s
  | [], s, _ => by show splitC c (c :: s) = _; rw [splitC_cons, if_pos rfl]
  | b :: a, s, h => by
    show splitC c (b :: (a ++ c :: s)) = _
    rw [splitC_cons, if_neg (fun e => h (by rw [e]; exact List.mem_cons_self)), splitC_app s fun hm => h (List.mem_cons_of_mem _ hm)]; rfl
theorem idx_cons (b c : UInt8) (l : Str) : Lib.index (b :: l) [c] = if (c == b) = true then 0 else if (Lib.index l [c] == -1) = true then -1 else Lib.index l [c] + 1 := by
  conv => lhs; unfold Lib.index
  simp [List.isPrefixOf]
theorem split_rec (c : UInt8) : ∀ (s : Str) (k : Nat), k = s.count c → Lib.splitK [c] 0 k s = splitC c s
  | [], k, h => by subst h; rfl
  | b :: l, k, h => by
    unfold splitC
    by_cases hb : b = c
    · subst hb
      rw [List.count_cons_self] at h
      subst h
      rw [if_pos rfl]
      unfold Lib.splitK
      rw [idx_cons]
      simp
      exact split_rec b l _ rfl
    · rw [List.count_cons_of_ne hb] at h
      rw [if_neg hb]
      have ih := split_rec c l k h
      cases k with
      | zero =>
        rw [← ih]; rfl
      | succ k =>
        rw [← ih]
        unfold Lib.splitK
        have hcb : ¬ (c == b) = true := by simpa using fun e : c = b => hb e.symm
        rw [idx_cons, if_neg hcb]
        have hge := Lib.index_ge l [c]
        by_cases hi : Lib.index l [c] = -1
        · simp [hi, addP]
        · have h1 : (Lib.index l [c] == -1) = false := by simpa using hi
          have h2 : (Lib.index l [c] + 1 == -1) = false := by simp; omega
          have h3 : (Lib.index l [c] + 1).toNat = (Lib.index l [c]).toNat + 1 := by omega
          simp only [h1, h2, Bool.false_eq_true, if_false, h3, addP, Nat.add_zero, List.length_cons, List.length_nil, List.take_succ_cons, List.cons_append, List.nil_append]
          simp [h3]
/-- The reference's way: pieces found, where the next begins, where it looks. -/
def SpOk (c : UInt8) (s : Str) (acc : List Str) (fr i : Nat) : Prop := splitC c s = acc ++ addP ((s.drop fr).take (i - fr)) (splitC c (s.drop i)) ∧ fr ≤ i ∧ i ≤ s.length ∧ acc.length ≤ i
theorem spOk_start (c : UInt8) (s : Str) : SpOk c s [] 0 0 := ⟨by simp [addP_nil (splitC_ne c s)], Nat.le_refl _, Nat.zero_le _, Nat.le_refl _⟩
theorem spOk_hit {c : UInt8} {s : Str} {acc : List Str} {fr i : Nat} (h : SpOk c s acc fr i) (hx : s[i]? = some c) : SpOk c s (acc ++ [(s.take i).drop fr]) (i + 1) (i + 1) := by
  obtain ⟨h1, h2, h3, h4⟩ := h
  have hlt := (List.getElem?_eq_some_iff.1 hx).1
  have hd : s.drop i = c :: s.drop (i + 1) := by rw [List.drop_eq_getElem_cons hlt]; congr 1; exact (List.getElem?_eq_some_iff.1 hx).2
  refine ⟨?_, Nat.le_refl _, hlt, by simp; omega⟩
  rw [h1, hd]
  have e : splitC c (c :: s.drop (i + 1)) = [] :: splitC c (s.drop (i + 1)) := by rw [splitC_cons, if_pos rfl]
  rw [e, Nat.sub_self, List.take_zero, addP_nil (splitC_ne c _), List.append_assoc]
  show acc ++ (((s.drop fr).take (i - fr) ++ []) :: splitC c (s.drop (i + 1))) = _
  rw [List.append_nil, ← List.drop_take]; rfl
theorem spOk_miss {c b : UInt8} {s : Str} {acc : List Str} {fr i : Nat} (h : SpOk c s acc fr i) (hx : s[i]? = some b) (hb : b ≠ c) : SpOk c s acc fr (i + 1) := by
  obtain ⟨h1, h2, h3, h4⟩ := h
  have hlt := (List.getElem?_eq_some_iff.1 hx).1
  have hd : s.drop i = b :: s.drop (i + 1) := by rw [List.drop_eq_getElem_cons hlt]; congr 1; exact (List.getElem?_eq_some_iff.1 hx).2
  refine ⟨?_, by omega, hlt, by omega⟩
  rw [h1, hd]
  have e : splitC c (b :: s.drop (i + 1)) = addP [b] (splitC c (s.drop (i + 1))) := by rw [splitC_cons, if_neg hb]
  rw [e, addP_add]
  congr 2
  rw [show i + 1 - fr = (i - fr) + 1 by omega, List.take_add_one, List.getElem?_drop, show fr + (i - fr) = i by omega, hx]; rfl
theorem spOk_end {c : UInt8} {s : Str} {acc : List Str} {fr i : Nat} (h : SpOk c s acc fr i) (hi : s.length ≤ i) : splitC c s = acc ++ [s.drop fr] := by
  obtain ⟨h1, h2, h3, h4⟩ := h
  rw [h1, List.drop_of_length_le hi, List.take_of_length_le (by rw [List.length_drop]; omega)]
  simp [splitC, addP]
/-! ### Numbers -/
def isDig (b : UInt8) : Bool := decide (48 ≤ b.toNat) && decide (b.toNat ≤ 57)
theorem decD_dig (n : Nat) : ∀ b ∈ decD n, 48 ≤ b.toNat ∧ b.toNat ≤ 57 := by
  induction n using Nat.strongRecOn with
  | ind n ih =>
    intro b hb
    by_cases h : n < 10
    · rw [decD_small h] at hb
      rw [List.mem_singleton.1 hb]
      have : (UInt8.ofNat (48 + n)).toNat = (48 + n) % 256 := by simp
      omega
    · rw [decD_big h] at hb
      rcases List.mem_append.1 hb with hb | hb
      · exact ih (n / 10) (by omega) b hb
      · rw [List.mem_singleton.1 hb]
        have : (UInt8.ofNat (48 + n % 10)).toNat = (48 + n % 10) % 256 := by simp
        omega
theorem decD_head {n : Nat} (hn : 0 < n) : ∃ d r, decD n = d :: r ∧ d.toNat ≠ 48 := by
  induction n using Nat.strongRecOn with
  | ind n ih =>
    by_cases h : n < 10
    · refine ⟨_, _, decD_small h, ?_⟩
      have : (UInt8.ofNat (48 + n)).toNat = (48 + n) % 256 := by simp
      omega
    · obtain ⟨d, r, e, hd⟩ := ih (n / 10) (by omega) (by omega)
      exact ⟨d, r ++ [UInt8.ofNat (48 + n % 10)], by rw [decD_big h, e]; rfl, hd⟩
theorem decD_ne (n : Nat) : decD n ≠ [] := by
  by_cases h : n < 10
  · rw [decD_small h]; simp
  · rw [decD_big h]; simp
theorem pu_snoc {d : UInt8} (hd : 48 ≤ d.toNat ∧ d.toNat ≤ 57) : ∀ (l : Str) (acc u : Nat), Lib.parseUint10 acc l = .ok u → u < 100000000000000000 → Lib.parseUint10 acc (l ++ [d]) = .ok (u * 10 + (d.toNat - 48))
  | [], acc, u, h, hu => by
    simp only [Lib.parseUint10] at h
    injection h with h
    subst h
    simp only [List.nil_append, Lib.parseUint10]
    rw [if_pos hd, if_neg (by omega), if_neg (by omega)]
  | c :: r, acc, u, h, hu => by
    simp only [Lib.parseUint10] at h
    show Lib.parseUint10 acc (c :: (r ++ [d])) = _
    simp only [Lib.parseUint10]
    split at h
    · rename_i h1
      rw [if_pos h1]
      split at h
      · cases h
      · rename_i h2
        rw [if_neg h2]
        split at h
        · cases h
        · rename_i h3
          rw [if_neg h3]
          exact pu_snoc hd r _ u h hu
    · cases h
theorem pu_dec (n : Nat) : n ≤ 1000000000000 → Lib.parseUint10 0 (decD n) = .ok n := by
  induction n using Nat.strongRecOn with
  | ind n ih =>
    intro hn
    by_cases h : n < 10
    · rw [decD_small h]
      have : (UInt8.ofNat (48 + n)).toNat = 48 + n := by simp; omega
      simp only [Lib.parseUint10, this]
      rw [if_pos (by omega), if_neg (by omega), if_neg (by omega)]
      congr 1; omega
    · rw [decD_big h]
      have h8 : (UInt8.ofNat (48 + n % 10)).toNat = 48 + n % 10 := by simp; omega
      rw [pu_snoc (by omega) _ 0 (n / 10) (ih (n / 10) (by omega) (by omega)) (by omega), h8]
      congr 1; omega
theorem atoi_dec {n : Nat} (h : n ≤ 1000000000000) : Lib.atoiAll (decD n) = .ok (n : Int) := by
  have hp := pu_dec n h
  have hdg := decD_dig n
  cases hl : decD n with
  | nil => exact absurd hl (decD_ne n)
  | cons c r =>
    rw [hl] at hp hdg
    have hc := hdg c List.mem_cons_self
    unfold Lib.atoiAll Lib.parseMag
    dsimp only
    rw [if_neg (show ¬ (c.toNat = 43 ∨ c.toNat = 45) by omega), if_neg (by simp), hp]
    dsimp only
    rw [if_neg (by omega), if_neg (by omega), if_neg (by omega)]
def atoiV (s : Str) : Int := match Lib.atoiAll s with | .ok v => v | .syntax => 0 | .range => Lib.atoiSat s
def atoiBad (s : Str) : Bool := match Lib.atoiAll s with | .ok _ => false | _ => true
def readI (s : Str) (lo hi : Int) : Int × Bool := if ((atoiBad s || !within (atoiV s) lo hi) || (itoaD (atoiV s) != s)) = true then (0, false) else (atoiV s, true)
theorem readI_dec {n : Nat} {lo hi : Int} (h : n ≤ 1000000000000) (hw : within n lo hi = true) : readI (decD n) lo hi = ((n : Int), true) := by
  have e := atoi_dec h
  have e1 : atoiV (decD n) = n := by unfold atoiV; rw [e]
  have e2 : atoiBad (decD n) = false := by unfold atoiBad; rw [e]
  unfold readI
  rw [e1, e2, hw, itoa_nat, if_neg (by simp)]
def rdFrom (n : Nat) : Str → Int
  | [] => n
  | b :: s => if isDig b = true then rdFrom (10 * n + (b.toNat - 48)) s else -1
def l1BadB (s : Str) : Bool := !within s.length 1 6 || ((s.head?.map fun b => b == 48).getD false && decide ((1 : Int) < (s.length : Int)))
def l1R (s : Str) : Int := if l1BadB s = true then -1 else rdFrom 0 s
theorem rd_snoc {d : UInt8} (hd : 48 ≤ d.toNat ∧ d.toNat ≤ 57) : ∀ (s : Str) (m v : Nat), rdFrom m s = (v : Int) → rdFrom m (s ++ [d]) = ((10 * v + (d.toNat - 48) : Nat) : Int)
  | [], m, v, h => by
    simp only [rdFrom] at h
    have : m = v := by omega
    subst this
    simp only [List.nil_append, rdFrom]
    rw [if_pos (by unfold isDig; simp; omega)]
  | b :: s, m, v, h => by
    simp only [rdFrom] at h
    show rdFrom m (b :: (s ++ [d])) = _
    simp only [rdFrom]
    split at h
    · rename_i h1
      rw [if_pos h1]
      exact rd_snoc hd s _ v h
    · exfalso; omega
theorem rd_dec (n : Nat) : rdFrom 0 (decD n) = (n : Int) := by
  induction n using Nat.strongRecOn with
  | ind n ih =>
    by_cases h : n < 10
    · rw [decD_small h]
      have h8 : (UInt8.ofNat (48 + n)).toNat = 48 + n := by simp; omega
      simp only [rdFrom, h8]
      rw [if_pos (by unfold isDig; rw [h8]; simp; omega)]
      congr 1; omega
    · rw [decD_big h]
      have h8 : (UInt8.ofNat (48 + n % 10)).toNat = 48 + n % 10 := by simp; omega
      rw [rd_snoc (by omega) _ 0 (n / 10) (ih (n / 10) (by omega)), h8]
      congr 1; omega
theorem l1R_dec {n : Nat} (h : n ≤ 999999) : l1R (decD n) = n := by
  have hl := decD_len (k := 6) (n := n) (by omega) (by decide)
  have hne := decD_ne n
  have hpos : 1 ≤ (decD n).length := by
    cases hd : decD n with
    | nil => exact absurd hd hne
    | cons b r => simp
  unfold l1R
  rw [if_neg, rd_dec]
  unfold l1BadB within
  simp only [Bool.or_eq_true, Bool.not_eq_true', Bool.and_eq_true, not_or, not_and]
  refine ⟨by simp; omega, fun hh hlt => ?_⟩
  by_cases hz : n = 0
  · subst hz
    have : (decD 0).length = 1 := by rw [decD_small (by decide)]; rfl
    simp at hlt; omega
  · obtain ⟨d, r, e, hd⟩ := decD_head (n := n) (by omega)
    rw [e] at hh
    simp at hh
    rw [hh] at hd
    exact hd rfl
end Go.M

set_option linter.unusedVariables false
set_option linter.unusedSimpArgs false
namespace Go.M
open Go.AV
theorem l3_no {s o : Str} (h : l3Bytes s o = true) {b : UInt8} (hn : (lowDig b || o.any fun d => ((b.toNat : Int) == (d.toNat : Int))) = false) : b ∉ s := fun hb => by
  unfold l3Bytes at h
  have := List.all_eq_true.1 h b hb
  rw [hn] at this; cases this
theorem splitC_len {c : UInt8} : ∀ {s w : Str}, w ∈ splitC c s → w.length ≤ s.length
  | [], w, h => by simp [splitC] at h; subst h; exact Nat.le_refl _
  | b :: s, w, h => by
    rw [splitC_cons] at h
    split at h
    · rcases List.mem_cons.1 h with rfl | h
      · exact Nat.zero_le _
      · have := splitC_len h; simp only [List.length_cons]; omega
    · cases hs : splitC c s with
      | nil => exact absurd hs (splitC_ne c s)
      | cons x xs =>
        rw [hs] at h
        rcases List.mem_cons.1 h with rfl | h
        · have := splitC_len (c := c) (s := s) (w := x) (by rw [hs]; exact List.mem_cons_self)
          simp only [List.cons_append, List.nil_append, List.length_cons]; omega
        · have := splitC_len (c := c) (s := s) (w := w) (by rw [hs]; exact List.mem_cons_of_mem _ h)
          simp only [List.length_cons]; omega
theorem idx_no {c : UInt8} : ∀ {s : Str}, c ∉ s → Lib.index s [c] = -1
  | [], _ => rfl
  | b :: s, h => by
    rw [idx_cons, if_neg (by simpa using fun e : c = b => h (by rw [e]; exact List.mem_cons_self)), idx_no fun hm => h (List.mem_cons_of_mem _ hm)]; rfl
theorem idx_at {c : UInt8} : ∀ {a : Str} (s : Str), c ∉ a → Lib.index (a ++ c :: s) [c] = (a.length : Int)
  | [], s, _ => by show Lib.index (c :: s) [c] = _; rw [idx_cons, if_pos (by simp)]; rfl
  | b :: a, s, h => by
    show Lib.index (b :: (a ++ c :: s)) [c] = _
    rw [idx_cons, if_neg (by simpa using fun e : c = b => h (by rw [e]; exact List.mem_cons_self)), idx_at s fun hm => h (List.mem_cons_of_mem _ hm), if_neg (by simp)]
    simp
theorem cut_no {c : UInt8} {s : Str} (h : c ∉ s) : Lib.cut s [c] = (s, [], false) := by unfold Lib.cut; rw [idx_no h]; rfl
theorem cut_at {c : UInt8} {a : Str} (s : Str) (h : c ∉ a) : Lib.cut (a ++ c :: s) [c] = (a, s, true) := by
  unfold Lib.cut
  rw [idx_at s h, if_pos (by omega)]
  simp
theorem cutL_len (s : Str) (c : UInt8) : (Lib.cut s [c]).1.length + (Lib.cut s [c]).2.1.length ≤ s.length := by
  unfold Lib.cut
  split
  · dsimp only; rw [List.length_take, List.length_drop]; simp; omega
  · simp
theorem trim_len (s p : Str) : (Lib.trimSuffix s p).length ≤ s.length := by
  unfold Lib.trimSuffix; split
  · rw [List.length_take]; omega
  · exact Nat.le_refl _
theorem trim_at (s : Str) (c : UInt8) : Lib.trimSuffix (s ++ [c]) [c] = s := by
  unfold Lib.trimSuffix Lib.hasSuffix
  rw [if_pos (by rw [List.isSuffixOf_iff_suffix]; exact List.suffix_append _ _)]
  simp
def emptyF : TFeedItem := ⟨0, 0, [], [], false⟩
def itemOf (a b k : Str) : TFeedItem := if (!(Lib.cut k [61]).2.2) = true then ⟨(readI a 1 100000).1, (readI b 0 3).1, Lib.trimSuffix (Lib.cut k [61]).1 [33], (Lib.cut k [61]).2.1, true⟩ else ⟨(readI a 1 100000).1, (readI b 0 3).1, (Lib.cut k [61]).1, (Lib.cut k [61]).2.1, false⟩
def bad3 (s a b k : Str) : Bool := ((!(readI a 1 100000).2 || !(readI b 0 3).2) || !goodItem (itemOf a b k)) || (lineB (itemOf a b k) != s)
def parse3 (s a b k : Str) : TFeedItem × Bool := if bad3 s a b k = true then (emptyF, false) else (itemOf a b k, true)
def parseF (s : Str) : TFeedItem × Bool := match splitC 32 s with
  | [a, b, k] => parse3 s a b k
  | _ => (emptyF, false)
def itemS (a b k : Str) : TFeedItem := match splitC 61 k with
  | [x, y] => ⟨l1R a, l1R b, x, y, false⟩
  | _ => ⟨l1R a, l1R b, k.take (k.length - 1), [], true⟩
def parse3S (s a b k : Str) : TFeedItem × Bool := if (!l23Good (itemS a b k) || (lineB (itemS a b k) != s)) = true then (emptyF, false) else (itemS a b k, true)
def parseFS (s : Str) : TFeedItem × Bool := match splitC 32 s with
  | [a, b, k] => if k.length < 2 then (emptyF, false) else parse3S s a b k
  | _ => (emptyF, false)
theorem itemOf_size {a b k : Str} : (itemOf a b k).size ≤ k.length := by
  have h1 := cutL_len k 61
  have h2 := trim_len (Lib.cut k [61]).1 [33]
  unfold itemOf TFeedItem.size
  split
  · dsimp only; omega
  · dsimp only; omega
theorem split_three {c : UInt8} {a b k : Str} (ha : c ∉ a) (hb : c ∉ b) (hk : c ∉ k) : splitC c (a ++ c :: (b ++ c :: k)) = [a, b, k] := by
  rw [splitC_app _ ha, splitC_app _ hb, splitC_no hk]
theorem dec_no {n : Nat} {c : UInt8} (h : c.toNat < 48 ∨ 57 < c.toNat) : c ∉ decD n := fun hm => by
  have := decD_dig n c hm; omega
structure GoodC (c : TFeedItem) : Prop where
  time : ∃ t : Nat, c.Time = (t : Int) ∧ 1 ≤ t ∧ t ≤ 100000
  group : ∃ g : Nat, c.Group = (g : Int) ∧ g ≤ 3
  key : 1 ≤ c.Key.length ∧ (32 : UInt8) ∉ c.Key ∧ (61 : UInt8) ∉ c.Key
  val : (32 : UInt8) ∉ c.Val ∧ (61 : UInt8) ∉ c.Val
  gone : c.Gone = true → c.Val = []
theorem goodC {c : TFeedItem} (h : goodItem c = true) : GoodC c := by
  rw [goodItem_eq] at h
  unfold l23Good l3Write l3Key l3Val at h
  simp only [Bool.and_eq_true] at h
  obtain ⟨⟨ht, hg⟩, ⟨⟨hk1, hk2⟩, ⟨_, hv⟩⟩, hz⟩ := h
  have ht2 : 1 ≤ c.Time ∧ c.Time ≤ 100000 := by unfold within at ht; simpa using ht
  have hg2 : 0 ≤ c.Group ∧ c.Group ≤ 3 := by unfold within at hg; simpa using hg
  have hk3 : 1 ≤ (c.Key.length : Int) ∧ (c.Key.length : Int) ≤ 12 := by unfold within at hk1; simpa using hk1
  refine ⟨⟨c.Time.toNat, by omega, by omega, by omega⟩, ⟨c.Group.toNat, by omega, by omega⟩, ⟨by omega, l3_no hk2 (by decide), l3_no hk2 (by decide)⟩, ⟨l3_no hv (by decide), l3_no hv (by decide)⟩, fun e => ?_⟩
  rw [e] at hz
  simpa using hz
theorem not_app {c : UInt8} {a b : Str} (ha : c ∉ a) (hb : c ∉ b) : c ∉ a ++ b := fun h => (List.mem_append.1 h).elim ha hb
def tailB (c : TFeedItem) : Str := if c.Gone = true then c.Key ++ [33] else c.Key ++ 61 :: c.Val
theorem line_split {c : TFeedItem} (h : goodItem c = true) : splitC 32 (lineB c) = [itoaD c.Time, itoaD c.Group, tailB c] := by
  obtain ⟨⟨t, et, ht1, ht2⟩, ⟨g, eg, hg⟩, hk, hv, hz⟩ := goodC h
  have e : lineB c = decD t ++ 32 :: (decD g ++ 32 :: tailB c) := by
    unfold lineB tailB
    rw [et, eg, itoa_nat, itoa_nat]
    split <;> simp
  rw [e, et, eg, itoa_nat, itoa_nat, split_three (dec_no (by decide)) (dec_no (by decide))]
  unfold tailB
  split
  · exact not_app hk.2.1 (by decide)
  · refine not_app hk.2.1 fun hm => ?_
    rcases List.mem_cons.1 hm with hm | hm
    · exact absurd hm (by decide)
    · exact hv.1 hm
theorem item_back {c : TFeedItem} (h : goodItem c = true) : itemOf (itoaD c.Time) (itoaD c.Group) (tailB c) = c ∧ (readI (itoaD c.Time) 1 100000).2 = true ∧ (readI (itoaD c.Group) 0 3).2 = true ∧ itemS (itoaD c.Time) (itoaD c.Group) (tailB c) = c ∧ ¬ (tailB c).length < 2 := by
  obtain ⟨⟨t, et, ht1, ht2⟩, ⟨g, eg, hg⟩, hk, hv, hz⟩ := goodC h
  have r1 : readI (decD t) 1 100000 = ((t : Int), true) := readI_dec (by omega) (by unfold within; simp; omega)
  have r2 : readI (decD g) 0 3 = ((g : Int), true) := readI_dec (by omega) (by unfold within; simp; omega)
  have s1 : l1R (decD t) = (t : Int) := l1R_dec (by omega)
  have s2 : l1R (decD g) = (g : Int) := l1R_dec (by omega)
  rw [et, eg, itoa_nat, itoa_nat, r1, r2]
  obtain ⟨T, G, K, V, Z⟩ := c
  dsimp only at et eg hk hv hz
  subst et; subst eg
  cases Z with
  | true =>
    have hV := hz rfl
    subst hV
    have hno : (61 : UInt8) ∉ K ++ [33] := not_app hk.2.2 (by decide)
    have ht : tailB ⟨(t : Int), (g : Int), K, [], true⟩ = K ++ [33] := rfl
    rw [ht]
    refine ⟨?_, rfl, rfl, ?_, by simp; omega⟩
    · unfold itemOf
      rw [cut_no hno]
      dsimp only
      rw [r1, r2, trim_at]; rfl
    · unfold itemS
      rw [splitC_no hno]
      dsimp only
      rw [s1, s2]
      simp
  | false =>
    have ht : tailB ⟨(t : Int), (g : Int), K, V, false⟩ = K ++ 61 :: V := rfl
    rw [ht]
    refine ⟨?_, rfl, rfl, ?_, by simp; omega⟩
    · unfold itemOf
      rw [cut_at V hk.2.2]
      dsimp only
      rw [r1, r2]; rfl
    · unfold itemS
      rw [splitC_app V hk.2.2, splitC_no hv.2]
      dsimp only
      rw [s1, s2]
theorem parseF_line {c : TFeedItem} (h : goodItem c = true) : parseF (lineB c) = (c, true) := by
  obtain ⟨h1, h2, h3, h4, h5⟩ := item_back h
  unfold parseF
  rw [line_split h]
  dsimp only
  unfold parse3 bad3
  rw [h1, h2, h3, h, if_neg (by simp)]
theorem parseFS_line {c : TFeedItem} (h : goodItem c = true) : parseFS (lineB c) = (c, true) := by
  obtain ⟨h1, h2, h3, h4, h5⟩ := item_back h
  unfold parseFS
  rw [line_split h]
  dsimp only
  rw [if_neg h5]
  unfold parse3S
  rw [h4, ← goodItem_eq, h, if_neg (by simp)]
theorem parseF_cases (s : Str) : parseF s = (emptyF, false) ∨ ((parseF s).2 = true ∧ goodItem (parseF s).1 = true ∧ lineB (parseF s).1 = s) := by
  unfold parseF
  split
  · unfold parse3
    split
    · exact .inl rfl
    · rename_i h
      refine .inr ⟨rfl, ?_⟩
      unfold bad3 at h
      simp only [Bool.or_eq_true, Bool.not_eq_true', bne_iff_ne, not_or, Bool.not_eq_false, Decidable.not_not] at h
      exact ⟨by simpa using h.1.2, by simpa using h.2⟩
  · exact .inl rfl
theorem parseFS_cases (s : Str) : parseFS s = (emptyF, false) ∨ ((parseFS s).2 = true ∧ goodItem (parseFS s).1 = true ∧ lineB (parseFS s).1 = s) := by
  unfold parseFS
  split
  · split
    · exact .inl rfl
    · unfold parse3S
      split
      · exact .inl rfl
      · rename_i h
        refine .inr ⟨rfl, ?_⟩
        simp only [Bool.or_eq_true, Bool.not_eq_true', bne_iff_ne, not_or, Bool.not_eq_false, Decidable.not_not] at h
        rw [goodItem_eq]
        exact ⟨by simpa using h.1, by simpa using h.2⟩
  · exact .inl rfl
theorem parse_eq (s : Str) : parseF s = parseFS s := by
  rcases parseF_cases s with h | ⟨_, h2, h3⟩
  · rcases parseFS_cases s with k | ⟨_, k2, k3⟩
    · rw [h, k]
    · have := parseF_line k2
      rw [k3] at this
      have h9 := parseFS_line k2
      rw [k3] at h9
      rw [this, h9]
  · have h8 := parseF_line h2
    have h9 := parseFS_line h2
    rw [h3] at h8 h9
    rw [h8, h9]
end Go.M

set_option linter.unusedVariables false
set_option linter.unusedSimpArgs false
namespace Go.M
open Go.AV
/-! ### Texts joined by two bytes and cut again -/
theorem ix2_cons (b : UInt8) (l p : Str) : Lib.index (b :: l) p = if p.isPrefixOf (b :: l) = true then 0 else if (Lib.index l p == -1) = true then -1 else Lib.index l p + 1 := rfl
theorem ix2_no {c d : UInt8} : ∀ {s : Str}, c ∉ s → Lib.index s [c, d] = -1
  | [], _ => rfl
  | b :: s, h => by
    have hb : ¬ b = c := fun e => h (by rw [e]; exact List.mem_cons_self)
    have hp : ¬ ([c, d] : Str).isPrefixOf (b :: s) = true := by
      simp only [List.isPrefixOf, Bool.and_eq_true, beq_iff_eq, not_and]
      exact fun e => absurd e.symm hb
    rw [ix2_cons, if_neg hp, ix2_no fun hm => h (List.mem_cons_of_mem _ hm)]; rfl
theorem ix2_at {c d : UInt8} : ∀ {a : Str} (s : Str), c ∉ a → Lib.index (a ++ c :: d :: s) [c, d] = (a.length : Int)
  | [], s, _ => by
    show Lib.index (c :: d :: s) [c, d] = _
    rw [ix2_cons, if_pos (by simp [List.isPrefixOf])]; rfl
  | b :: a, s, h => by
    show Lib.index (b :: (a ++ c :: d :: s)) [c, d] = _
    have hb : ¬ b = c := fun e => h (by rw [e]; exact List.mem_cons_self)
    have hp : ¬ ([c, d] : Str).isPrefixOf (b :: (a ++ c :: d :: s)) = true := by
      simp only [List.isPrefixOf, Bool.and_eq_true, beq_iff_eq, not_and]
      exact fun e => absurd e.symm hb
    rw [ix2_cons, if_neg hp, ix2_at s fun hm => h (List.mem_cons_of_mem _ hm), if_neg (by simp)]
    simp
def joinW : List Str → Str
  | [] => []
  | [p] => p
  | p :: q :: r => p ++ 59 :: 32 :: joinW (q :: r)
theorem joinW_snoc (o : Str) : ∀ {l : List Str}, l ≠ [] → joinW (l ++ [o]) = joinW l ++ 59 :: 32 :: o
  | [], h => absurd rfl h
  | [p], _ => rfl
  | p :: q :: r, _ => by
    show p ++ 59 :: 32 :: joinW ((q :: r) ++ [o]) = (p ++ 59 :: 32 :: joinW (q :: r)) ++ 59 :: 32 :: o
    rw [joinW_snoc o (l := q :: r) (by simp)]
    simp
theorem joinW_lib : ∀ l : List Str, Lib.join l [59, 32] = joinW l
  | [] => rfl
  | [p] => Lib.join_one _ _
  | p :: q :: r => by
    have h := joinW_lib (q :: r)
    rw [Lib.join_cons] at h ⊢
    show p ++ (([59, 32] ++ q) ++ Lib.joinTail [59, 32] r) = p ++ 59 :: 32 :: joinW (q :: r)
    rw [← h]; simp
def cutW (s : Str) : List Str := Lib.split s [59, 32]
theorem splitK_join : ∀ {l : List Str} {k : Nat}, l ≠ [] → (∀ p ∈ l, (59 : UInt8) ∉ p) → l.length ≤ k + 1 → Lib.splitK [59, 32] 0 k (joinW l) = l
  | [], _, h, _, _ => absurd rfl h
  | [p], 0, _, _, _ => rfl
  | [p], k + 1, _, h, _ => by
    show (if Lib.index p [59, 32] == -1 then [p] else _) = _
    rw [ix2_no (h p List.mem_cons_self)]; rfl
  | p :: q :: r, 0, _, _, hk => by simp at hk
  | p :: q :: r, k + 1, _, h, hk => by
    have hi := ix2_at (d := 32) (joinW (q :: r)) (h p List.mem_cons_self)
    have hj : joinW (p :: q :: r) = p ++ 59 :: 32 :: joinW (q :: r) := rfl
    rw [hj]
    unfold Lib.splitK
    rw [hi, if_neg (by simp)]
    have e1 : (p ++ 59 :: 32 :: joinW (q :: r)).take (((p.length : Nat) : Int).toNat + 0) = p := by simp
    have e2 : (p ++ 59 :: 32 :: joinW (q :: r)).drop (((p.length : Nat) : Int).toNat + ([59, 32] : Str).length) = joinW (q :: r) := by
      rw [Int.toNat_natCast, ← List.drop_drop, List.drop_left' rfl]; rfl
    rw [e1, e2, splitK_join (by simp) (fun x hx => h x (List.mem_cons_of_mem _ hx)) (by simpa using hk)]
theorem countFrom_join : ∀ {l : List Str} {f : Nat}, (∀ p ∈ l, (59 : UInt8) ∉ p) → l.length ≤ f + 1 → l.length ≤ Lib.countFrom [59, 32] f (joinW l) + 1
  | [], _, _, _ => by simp
  | [p], _, _, _ => by simp
  | p :: q :: r, 0, _, hk => by simp at hk
  | p :: q :: r, f + 1, h, hk => by
    have hi := ix2_at (d := 32) (joinW (q :: r)) (h p List.mem_cons_self)
    have ih := countFrom_join (l := q :: r) (f := f) (fun x hx => h x (List.mem_cons_of_mem _ hx)) (by simpa using hk)
    have hj : joinW (p :: q :: r) = p ++ 59 :: 32 :: joinW (q :: r) := rfl
    rw [hj]
    unfold Lib.countFrom
    rw [hi, if_neg (by simp)]
    have e2 : (p ++ 59 :: 32 :: joinW (q :: r)).drop (((p.length : Nat) : Int).toNat + ([59, 32] : Str).length) = joinW (q :: r) := by
      rw [Int.toNat_natCast, ← List.drop_drop, List.drop_left' rfl]; rfl
    rw [e2]
    simp only [List.length_cons] at ih ⊢; omega
theorem joinW_len : ∀ l : List Str, l.length ≤ (joinW l).length + 1
  | [] => by simp
  | [p] => by simp
  | p :: q :: r => by
    have := joinW_len (q :: r)
    show _ ≤ (p ++ 59 :: 32 :: joinW (q :: r)).length + 1
    simp only [List.length_append, List.length_cons] at this ⊢; omega
theorem cutW_join {l : List Str} (hne : l ≠ []) (h : ∀ p ∈ l, (59 : UInt8) ∉ p) : cutW (joinW l) = l :=
  splitK_join hne h (countFrom_join h (by have := joinW_len l; omega))
theorem splitK_len {sep : Str} : ∀ {k : Nat} {s w : Str}, w ∈ Lib.splitK sep 0 k s → w.length ≤ s.length
  | 0, s, w, h => by simp [Lib.splitK] at h; rw [h]; exact Nat.le_refl _
  | k + 1, s, w, h => by
    unfold Lib.splitK at h
    split at h
    · simp at h; rw [h]; exact Nat.le_refl _
    · rcases List.mem_cons.1 h with rfl | h
      · rw [List.length_take]; omega
      · have := splitK_len h; rw [List.length_drop] at this; omega
theorem cutW_len {s w : Str} (h : w ∈ cutW s) : w.length ≤ s.length := splitK_len h
/-- At a byte, and then a byte off: where the separators have two. -/
def cutC : Str → List Str
  | s => splitC 59 s
theorem splitC_join : ∀ {l : List Str}, l ≠ [] → (∀ p ∈ l, (59 : UInt8) ∉ p) → splitC 59 (joinW l) = l.head! :: l.tail.map (fun p => 32 :: p)
  | [], h, _ => absurd rfl h
  | [p], _, h => splitC_no (h p List.mem_cons_self)
  | p :: q :: r, _, h => by
    have ih := splitC_join (l := q :: r) (by simp) fun x hx => h x (List.mem_cons_of_mem _ hx)
    show splitC 59 (p ++ 59 :: (32 :: joinW (q :: r))) = _
    rw [splitC_app _ (h p List.mem_cons_self), splitC_cons, if_neg (by decide), ih]
    rfl
/-! ### Operations -/
def hasValK (k : Int) : Bool := k == 2 || k == 7
def hasByK (k : Int) : Bool := k == 4 || k == 5
def isOp (o : TOp) : Bool := within o.Kind 1 7 && goodKey o.Key && goodVal o.Val && (hasValK o.Kind || o.Val == []) && within o.By (-9999) 9999 && (hasByK o.Kind || o.By == 0)
def goodOps (l : List TOp) : Bool := decide ((l.length : Int) ≤ 8) && !(l.any fun o => !isOp o)
def l5Op (o : TOp) : Bool := if l3Key o.Key = false then false else if hasValK o.Kind = true then l3Val o.Val && (o.By == 0) else if hasByK o.Kind = true then (o.Val == []) && within o.By (-9999) 9999 else (((o.Kind == 1 || o.Kind == 3) || o.Kind == 6) && o.Val == []) && (o.By == 0)
def l5Good (l : List TOp) : Bool := l.all l5Op && decide ((l.length : Int) ≤ 8)
theorem isOp_eq (o : TOp) : isOp o = l5Op o := by
  obtain ⟨K, k, v, b⟩ := o
  unfold isOp l5Op hasValK hasByK within
  dsimp only
  rw [goodKey_eq, goodVal_eq]
  have hv : l3Val [] = true := by decide
  cases hk : l3Key k with
  | false => simp
  | true =>
    simp only [Bool.and_true, Bool.true_eq_false, if_false]
    by_cases h2 : K = 2
    · subst h2; cases l3Val v <;> simp <;> (by_cases hb : b = 0 <;> simp [hb])
    · by_cases h7 : K = 7
      · subst h7; cases l3Val v <;> simp <;> (by_cases hb : b = 0 <;> simp [hb])
      · have e2 : (K == 2) = false := by simpa using h2
        have e7 : (K == 7) = false := by simpa using h7
        by_cases h4 : K = 4
        · subst h4; cases v <;> simp [hv]
        · by_cases h5 : K = 5
          · subst h5; cases v <;> simp [hv]
          · have e4 : (K == 4) = false := by simpa using h4
            have e5 : (K == 5) = false := by simpa using h5
            rw [e2, e7, e4, e5]
            cases v with
            | nil =>
              by_cases hb : b = 0
              · subst hb
                rw [Bool.eq_iff_iff]
                simp [hv]; omega
              · have eb : (b == 0) = false := by simpa using hb
                simp [eb]
            | cons c v => simp
theorem goodOps_eq (l : List TOp) : goodOps l = l5Good l := by
  unfold goodOps l5Good
  rw [List.not_any_eq_all_not, Bool.and_comm]
  congr 1
  congr 1; funext o; rw [Bool.not_not, isOp_eq]
def opWs : List Str := [[], [114, 101, 97, 100], [112, 117, 116], [100, 114, 111, 112], [97, 100, 100], [110, 101, 101, 100], [108, 97, 99, 107], [105, 115]]
def wordOf (k : Int) : Str := opWs.getD k.toNat []
def opHd (o : TOp) : Str := (wordOf o.Kind ++ [32]) ++ o.Key
def opVal (o : TOp) : Str := if hasValK o.Kind = true then opHd o ++ ([32] ++ o.Val) else opHd o
def opB (o : TOp) : Str := if hasByK o.Kind = true then opVal o ++ ([32] ++ itoaD o.By) else opVal o
def opsB (l : List TOp) : Str := joinW (l.map opB)
theorem opsB_one (o : TOp) : opsB [o] = opB o := rfl
theorem opsB_snoc {l : List TOp} (o : TOp) (h : l ≠ []) : opsB (l ++ [o]) = opsB l ++ ([59, 32] ++ opB o) := by
  unfold opsB
  rw [List.map_append]
  show joinW (l.map opB ++ [opB o]) = _
  rw [joinW_snoc _ (by simpa using h)]; rfl
/-! ### Reading -/
def l5N (s : Str) : Int × Bool :=
  if (decide (l1R (if s.head? = some 45 then s.drop 1 else s) < 0) || (decide (s.head? = some 45) && (l1R (if s.head? = some 45 then s.drop 1 else s) == 0))) = true then (0, false)
  else if s.head? = some 45 then (-(l1R (s.drop 1)), true) else (l1R s, true)
def idxF : List Str → Str → Nat → Int
  | [], _, _ => -1
  | x :: l, s, n => if s = x then (n : Int) else idxF l s (n + 1)
def idxW (w : Str) : Int := idxF opWs w 0
def opOf (w : List Str) : TOp :=
  ⟨idxW (w.getD 0 []), w.getD 1 [], if w.length = 3 ∧ hasValK (idxW (w.getD 0 [])) = true then w.getD 2 [] else [], if w.length = 3 ∧ hasByK (idxW (w.getD 0 [])) = true then (readI (w.getD 2 []) (-9999) 9999).1 else 0⟩
def partsI : List Str → Option (List TOp)
  | [] => some []
  | p :: r => if (splitC 32 p).length < 2 then none else (partsI r).map (opOf (splitC 32 p) :: ·)
def endO (s : Str) (l : List TOp) : List TOp × Bool := if (!goodOps l || (opsB l != s)) = true then ([], false) else (l, true)
def endP (s : Str) : Option (List TOp) → List TOp × Bool
  | none => ([], false)
  | some l => endO s l
def parseO (s : Str) : List TOp × Bool := if s = [] then ([], true) else if 400 < s.length then ([], false) else endP s (partsI (cutW s))
def kindN (w : Str) : Nat → Int
  | 0 => 0
  | k + 1 => if 0 < k ∧ opWs[k]? = some w then (k : Int) else kindN w k
def kindS (w : Str) : Int := kindN w 8
def opOfS (w : List Str) : TOp :=
  ⟨kindS (w.getD 0 []), w.getD 1 [], if 2 < w.length ∧ hasValK (kindS (w.getD 0 [])) = true then w.getD 2 [] else [], if 2 < w.length ∧ hasValK (kindS (w.getD 0 [])) = false then (l5N (w.getD 2 [])).1 else 0⟩
def partsT : List Str → Option (List TOp)
  | [] => some []
  | p :: r => if p = [] then none else (partsT r).map (opOfS (splitC 32 (p.drop 1)) :: ·)
def partsS : List Str → Option (List TOp)
  | [] => some []
  | p :: r => (partsT r).map (opOfS (splitC 32 p) :: ·)
def parseOS (s : Str) : List TOp × Bool := if 400 < s.length then ([], false) else endP s (if s = [] then some [] else partsS (splitC 59 s))
structure GoodO (o : TOp) : Prop where
  kind : 1 ≤ o.Kind ∧ o.Kind ≤ 7
  key : (32 : UInt8) ∉ o.Key ∧ (59 : UInt8) ∉ o.Key
  val : (32 : UInt8) ∉ o.Val ∧ (59 : UInt8) ∉ o.Val
  noval : hasValK o.Kind = false → o.Val = []
  noby : hasByK o.Kind = false → o.By = 0
  by' : -9999 ≤ o.By ∧ o.By ≤ 9999
theorem goodO {o : TOp} (h : isOp o = true) : GoodO o := by
  unfold isOp at h
  rw [goodKey_eq, goodVal_eq] at h
  simp only [Bool.and_eq_true] at h
  obtain ⟨⟨⟨⟨⟨h1, h2⟩, h3⟩, h4⟩, h5⟩, h6⟩ := h
  have hk : 1 ≤ o.Kind ∧ o.Kind ≤ 7 := by unfold within at h1; simpa using h1
  have hb : -9999 ≤ o.By ∧ o.By ≤ 9999 := by unfold within at h5; simpa using h5
  unfold l3Key at h2
  unfold l3Val at h3
  simp only [Bool.and_eq_true] at h2 h3
  exact ⟨hk, ⟨l3_no h2.2 (by decide), l3_no h2.2 (by decide)⟩, ⟨l3_no h3.2 (by decide), l3_no h3.2 (by decide)⟩, fun e => by rw [e] at h4; simpa using h4, fun e => by rw [e] at h6; simpa using h6, hb⟩
theorem wordOf_mem {k : Int} (h : 1 ≤ k ∧ k ≤ 7) : ∀ P : Int → Prop, P 1 → P 2 → P 3 → P 4 → P 5 → P 6 → P 7 → P k := fun P h1 h2 h3 h4 h5 h6 h7 => by
  have : k = 1 ∨ k = 2 ∨ k = 3 ∨ k = 4 ∨ k = 5 ∨ k = 6 ∨ k = 7 := by omega
  rcases this with e | e | e | e | e | e | e <;> (subst e; assumption)
theorem word_no {k : Int} (h : 1 ≤ k ∧ k ≤ 7) : (32 : UInt8) ∉ wordOf k ∧ (59 : UInt8) ∉ wordOf k :=
  wordOf_mem h (fun k => (32 : UInt8) ∉ wordOf k ∧ (59 : UInt8) ∉ wordOf k) (by decide) (by decide) (by decide) (by decide) (by decide) (by decide) (by decide)
theorem word_idx {k : Int} (h : 1 ≤ k ∧ k ≤ 7) : idxW (wordOf k) = k ∧ kindS (wordOf k) = k :=
  wordOf_mem h (fun k => idxW (wordOf k) = k ∧ kindS (wordOf k) = k) (by decide) (by decide) (by decide) (by decide) (by decide) (by decide) (by decide)
theorem itoa_minus {n : Nat} (h : 1 ≤ n) : itoaD (-(n : Int)) = 45 :: decD n := by
  show Lib.itoa _ = _
  unfold Lib.itoa
  rw [if_pos (by omega)]; simp
theorem itoa_no {n : Int} {c : UInt8} (h : (c.toNat < 48 ∨ 57 < c.toNat) ∧ c ≠ 45) : c ∉ itoaD n := by
  show c ∉ Lib.itoa n
  unfold Lib.itoa
  split
  · intro hm
    rcases List.mem_cons.1 hm with e | hm
    · exact h.2 e
    · exact dec_no h.1 hm
  · exact dec_no h.1
theorem atoi_minus {n : Nat} (h1 : 1 ≤ n) (h : n ≤ 1000000000000) : Lib.atoiAll (45 :: decD n) = .ok (-(n : Int)) := by
  have hp := pu_dec n h
  cases hl : decD n with
  | nil => exact absurd hl (decD_ne n)
  | cons c r =>
    rw [hl] at hp
    unfold Lib.atoiAll Lib.parseMag
    dsimp only
    rw [if_pos (show (45 : UInt8).toNat = 43 ∨ (45 : UInt8).toNat = 45 from .inr rfl), if_neg (by simp), hp]
    dsimp only
    rw [if_neg (by simp), if_neg (by simp; omega), if_pos (by rfl)]
theorem readI_itoa {n lo hi : Int} (hn : -1000000 ≤ n ∧ n ≤ 1000000) (hw : within n lo hi = true) : readI (itoaD n) lo hi = (n, true) := by
  by_cases h0 : 0 ≤ n
  · obtain ⟨m, rfl⟩ : ∃ m : Nat, n = (m : Int) := ⟨n.toNat, by omega⟩
    rw [itoa_nat, readI_dec (by omega) hw]
  · obtain ⟨m, rfl⟩ : ∃ m : Nat, n = -(m : Int) := ⟨n.natAbs, by omega⟩
    have e0 := itoa_minus (n := m) (by omega)
    have e := atoi_minus (n := m) (by omega) (by omega)
    have e1 : atoiV (itoaD (-(m : Int))) = -(m : Int) := by unfold atoiV; rw [e0, e]
    have e2 : atoiBad (itoaD (-(m : Int))) = false := by unfold atoiBad; rw [e0, e]
    unfold readI
    rw [e1, e2, hw, if_neg (by simp)]
theorem dec_head {n : Nat} : (decD n).head? ≠ some 45 := fun h => by
  have := decD_dig n 45 (List.mem_of_mem_head? h)
  revert this; decide
theorem l5N_itoa {n : Int} (hn : -999999 ≤ n ∧ n ≤ 999999) : l5N (itoaD n) = (n, true) := by
  by_cases h0 : 0 ≤ n
  · obtain ⟨m, rfl⟩ : ∃ m : Nat, n = (m : Int) := ⟨n.toNat, by omega⟩
    have e := l1R_dec (n := m) (by omega)
    unfold l5N
    rw [itoa_nat, if_neg (c := (decD m).head? = some 45) dec_head, e, if_neg (by simp [dec_head]), if_neg dec_head]
  · obtain ⟨m, rfl⟩ : ∃ m : Nat, n = -(m : Int) := ⟨n.natAbs, by omega⟩
    have e := l1R_dec (n := m) (by omega)
    have hh : (45 :: decD m : Str).head? = some 45 := rfl
    have hd : (45 :: decD m : Str).drop 1 = decD m := rfl
    unfold l5N
    rw [itoa_minus (by omega), if_pos (c := (45 :: decD m : Str).head? = some 45) hh, hd, e, if_neg (by simp; omega), if_pos hh]
theorem opB_eq {o : TOp} (h : GoodO o) : opB o = wordOf o.Kind ++ 32 :: (o.Key ++ (if hasValK o.Kind = true then 32 :: o.Val else if hasByK o.Kind = true then 32 :: itoaD o.By else [])) := by
  have hvb : hasValK o.Kind = true → hasByK o.Kind = false := by
    unfold hasValK hasByK; intro e
    simp only [Bool.or_eq_true, beq_iff_eq] at e
    rcases e with e | e <;> rw [e] <;> rfl
  unfold opB opVal opHd
  cases h1 : hasValK o.Kind with
  | true => rw [hvb h1]; simp
  | false => cases h2 : hasByK o.Kind <;> simp
theorem opB_no {o : TOp} (h : GoodO o) : (59 : UInt8) ∉ opB o := by
  rw [opB_eq h]
  have h1 : (59 : UInt8) ∉ (if hasValK o.Kind = true then 32 :: o.Val else if hasByK o.Kind = true then 32 :: itoaD o.By else []) := by
    split
    · exact fun hm => (List.mem_cons.1 hm).elim (by decide) h.val.2
    · split
      · exact fun hm => (List.mem_cons.1 hm).elim (by decide) (itoa_no (by decide))
      · simp
  exact not_app (word_no h.kind).2 fun hm => (List.mem_cons.1 hm).elim (by decide) (not_app h.key.2 h1)
theorem opB_split {o : TOp} (h : GoodO o) : splitC 32 (opB o) = [wordOf o.Kind, o.Key] ++ (if hasValK o.Kind = true then [o.Val] else if hasByK o.Kind = true then [itoaD o.By] else []) := by
  rw [opB_eq h, splitC_app _ (word_no h.kind).1]
  split
  · rw [splitC_app _ h.key.1, splitC_no h.val.1]; rfl
  · split
    · rw [splitC_app _ h.key.1, splitC_no (itoa_no (by decide))]; rfl
    · rw [List.append_nil, splitC_no h.key.1]; rfl
theorem opOf_back {o : TOp} (h : GoodO o) : ¬ (splitC 32 (opB o)).length < 2 ∧ opOf (splitC 32 (opB o)) = o ∧ opOfS (splitC 32 (opB o)) = o := by
  have hw := word_idx h.kind
  have hvb : hasValK o.Kind = true → hasByK o.Kind = false := by
    unfold hasValK hasByK; intro e
    simp only [Bool.or_eq_true, beq_iff_eq] at e
    rcases e with e | e <;> rw [e] <;> rfl
  have hr := readI_itoa (n := o.By) (lo := -9999) (hi := 9999) (by have := h.by'; omega) (by unfold within; have := h.by'; simp; omega)
  have hl := l5N_itoa (n := o.By) (by have := h.by'; omega)
  rw [opB_split h]
  unfold opOf opOfS
  obtain ⟨K, k, v, b⟩ := o
  have h3 := h.noval; have h4 := h.noby
  dsimp only at *
  cases h1 : hasValK K with
  | true =>
    have hb := hvb h1
    refine ⟨by simp, ?_, ?_⟩
    · simp [hw.1, h1, hb, h4 hb]
    · simp [hw.2, h1, h4 hb]
  | false =>
    have hv := h3 h1
    cases h2 : hasByK K with
    | true =>
      refine ⟨by simp, ?_, ?_⟩
      · simp [hw.1, h1, h2, hv, hr]
      · simp [hw.2, h1, hv, hl]
    | false =>
      have hb := h4 h2
      refine ⟨by simp, ?_, ?_⟩
      · simp [hw.1, hv, hb]
      · simp [hw.2, hv, hb]
theorem goodOps_mem {l : List TOp} (h : goodOps l = true) : ∀ o ∈ l, GoodO o := fun o ho => by
  rw [goodOps_eq] at h
  unfold l5Good at h
  rw [Bool.and_eq_true, List.all_eq_true] at h
  exact goodO (by rw [isOp_eq]; exact h.1 o ho)
theorem partsI_back : ∀ {l : List TOp}, (∀ o ∈ l, GoodO o) → partsI (l.map opB) = some l
  | [], _ => rfl
  | o :: l, h => by
    obtain ⟨h1, h2, _⟩ := opOf_back (h o List.mem_cons_self)
    show (if (splitC 32 (opB o)).length < 2 then none else _) = _
    rw [if_neg h1, partsI_back fun x hx => h x (List.mem_cons_of_mem _ hx), h2]; rfl
theorem partsT_back : ∀ {l : List TOp}, (∀ o ∈ l, GoodO o) → partsT ((l.map opB).map fun p => 32 :: p) = some l
  | [], _ => rfl
  | o :: l, h => by
    obtain ⟨_, _, h2⟩ := opOf_back (h o List.mem_cons_self)
    show (if (32 :: opB o : Str) = [] then none else (partsT ((l.map opB).map fun p => 32 :: p)).map (opOfS (splitC 32 ((32 :: opB o : Str).drop 1)) :: ·)) = _
    rw [if_neg (by simp), partsT_back fun x hx => h x (List.mem_cons_of_mem _ hx)]
    show some (opOfS (splitC 32 (opB o)) :: l) = _
    rw [h2]
theorem opsB_no {l : List TOp} (h : ∀ o ∈ l, GoodO o) : ∀ p ∈ l.map opB, (59 : UInt8) ∉ p := fun p hp => by
  obtain ⟨o, ho, rfl⟩ := List.mem_map.1 hp
  exact opB_no (h o ho)
theorem opB_ne (o : TOp) : opB o ≠ [] := by
  unfold opB opVal opHd
  split <;> split <;> simp
theorem opsB_ne {l : List TOp} (h : l ≠ []) : opsB l ≠ [] := by
  cases l with
  | nil => exact absurd rfl h
  | cons o r =>
    cases r with
    | nil => exact opB_ne o
    | cons p r => show opB o ++ 59 :: 32 :: joinW ((p :: r).map opB) ≠ []; simp
theorem parseO_back {l : List TOp} (h : goodOps l = true) (hl : (opsB l).length ≤ 400) : parseO (opsB l) = (l, true) := by
  by_cases hne : l = []
  · subst hne; rfl
  · have hm := goodOps_mem h
    unfold parseO
    rw [if_neg (opsB_ne hne), if_neg (by omega)]
    show endP (opsB l) (partsI (cutW (joinW (l.map opB)))) = _
    rw [cutW_join (by simpa using hne) (opsB_no hm), partsI_back hm]
    show endO (opsB l) l = _
    unfold endO
    rw [if_neg (by simp [h])]
theorem parseOS_back {l : List TOp} (h : goodOps l = true) (hl : (opsB l).length ≤ 400) : parseOS (opsB l) = (l, true) := by
  have he : endO (opsB l) l = (l, true) := by unfold endO; rw [if_neg (by simp [h])]
  by_cases hne : l = []
  · subst hne; rfl
  · have hm := goodOps_mem h
    unfold parseOS
    rw [if_neg (by omega), if_neg (opsB_ne hne)]
    have e : partsS (splitC 59 (opsB l)) = some l := by
      show partsS (splitC 59 (joinW (l.map opB))) = _
      rw [splitC_join (by simpa using hne) (opsB_no hm)]
      cases l with
      | nil => exact absurd rfl hne
      | cons o r =>
        show (partsT ((r.map opB).map fun p => 32 :: p)).map (opOfS (splitC 32 (opB o)) :: ·) = _
        rw [partsT_back fun x hx => hm x (List.mem_cons_of_mem _ hx), (opOf_back (hm o List.mem_cons_self)).2.2]; rfl
    rw [e]
    exact he
theorem endO_cases (s : Str) (l : List TOp) : endO s l = ([], false) ∨ (endO s l = (l, true) ∧ goodOps l = true ∧ opsB l = s) := by
  unfold endO
  split
  · exact .inl rfl
  · rename_i h
    simp at h
    exact .inr ⟨rfl, h.1, h.2⟩
theorem parseO_cases (s : Str) : parseO s = ([], false) ∨ ∃ l, parseO s = (l, true) ∧ goodOps l = true ∧ opsB l = s ∧ s.length ≤ 400 := by
  unfold parseO
  split
  · rename_i h; subst h; exact .inr ⟨[], rfl, by decide, rfl, by simp⟩
  · split
    · exact .inl rfl
    · rename_i hl
      cases partsI (cutW s) with
      | none => exact .inl rfl
      | some l =>
        rcases endO_cases s l with e | ⟨e, h1, h2⟩
        · exact .inl e
        · exact .inr ⟨l, e, h1, h2, by omega⟩
theorem parseOS_cases (s : Str) : parseOS s = ([], false) ∨ ∃ l, parseOS s = (l, true) ∧ goodOps l = true ∧ opsB l = s ∧ s.length ≤ 400 := by
  unfold parseOS
  split
  · exact .inl rfl
  · rename_i hl
    cases (if s = [] then some [] else partsS (splitC 59 s)) with
    | none => exact .inl rfl
    | some l =>
      rcases endO_cases s l with e | ⟨e, h1, h2⟩
      · exact .inl e
      · exact .inr ⟨l, e, h1, h2, by omega⟩
theorem parseO_eq (s : Str) : parseO s = parseOS s := by
  rcases parseO_cases s with e | ⟨l, e, h1, h2, h3⟩
  · rcases parseOS_cases s with e' | ⟨l, e', h1, h2, h3⟩
    · rw [e, e']
    · subst h2; rw [parseO_back h1 h3] at e; cases e
  · subst h2; rw [parseOS_back h1 h3, parseO_back h1 h3]
theorem idxF_hit {l : List Str} {s : Str} : ∀ {n i : Nat}, (l.drop i).head? = some s → idxF (l.drop i) s n = (n : Int) := fun {n i} h => by
  cases hl : l.drop i with
  | nil => rw [hl] at h; cases h
  | cons x r => rw [hl] at h; injection h with h; subst h; unfold idxF; rw [if_pos rfl]
theorem idxF_next {l : List Str} {s x : Str} {i : Nat} (hx : l[i]? = some x) (h : s ≠ x) : idxF (l.drop i) s i = idxF (l.drop (i + 1)) s (i + 1) := by
  rw [drop_some hx]; conv => lhs; unfold idxF
  rw [if_neg h]
theorem idxF_here {l : List Str} {s x : Str} {i : Nat} (hx : l[i]? = some x) (h : s = x) : idxF (l.drop i) s i = (i : Int) := by
  rw [drop_some hx]; unfold idxF; rw [if_pos h]
theorem idxF_end {l : List Str} {s : Str} {i : Nat} (h : l.length ≤ i) : idxF (l.drop i) s i = -1 := by
  rw [List.drop_eq_nil_of_le h]; rfl
theorem goodOps_len {l : List TOp} (h : goodOps l = true) : l.length ≤ 8 := by
  unfold goodOps at h
  simp only [Bool.and_eq_true, decide_eq_true_eq] at h
  have := h.1; omega
theorem itoa_len5 {n : Int} (h : -9999 ≤ n ∧ n ≤ 9999) : (itoaD n).length ≤ 5 := by
  by_cases h0 : 0 ≤ n
  · rw [itoa_pos h0]
    have := decD_len (k := 4) (n := n.toNat) (by omega) (by decide); omega
  · obtain ⟨m, rfl⟩ : ∃ m : Nat, n = -(m : Int) := ⟨n.natAbs, by omega⟩
    rw [itoa_minus (by omega)]
    have := decD_len (k := 4) (n := m) (by omega) (by decide)
    simp only [List.length_cons]; omega
theorem word_len {k : Int} (h : 1 ≤ k ∧ k ≤ 7) : (wordOf k).length ≤ 4 :=
  wordOf_mem h (fun k => (wordOf k).length ≤ 4) (by decide) (by decide) (by decide) (by decide) (by decide) (by decide) (by decide)
theorem isOp_lens {o : TOp} (h : isOp o = true) : o.Key.length ≤ 12 ∧ o.Val.length ≤ 24 := by
  unfold isOp at h
  rw [goodKey_eq, goodVal_eq] at h
  simp only [Bool.and_eq_true] at h
  obtain ⟨⟨⟨⟨⟨_, h2⟩, h3⟩, _⟩, _⟩, _⟩ := h
  unfold l3Key at h2
  unfold l3Val at h3
  simp only [Bool.and_eq_true] at h2 h3
  have h4 := h2.1; have h5 := h3.1
  unfold within at h4
  simp at h4 h5
  omega
theorem opB_len {o : TOp} (h : isOp o = true) : (opB o).length ≤ 50 := by
  have h1 := goodO h
  have h2 := isOp_lens h
  have h3 := itoa_len5 h1.by'
  have h4 := word_len h1.kind
  rw [opB_eq h1]
  split
  · simp only [List.length_append, List.length_cons]; omega
  · split
    · simp only [List.length_append, List.length_cons]; omega
    · simp only [List.length_append, List.length_cons, List.length_nil]; omega
theorem joinW_le {m : Nat} : ∀ {l : List Str}, (∀ p ∈ l, p.length ≤ m) → (joinW l).length ≤ l.length * (m + 2)
  | [], _ => Nat.zero_le _
  | [p], h => by have := h p List.mem_cons_self; simp only [joinW, List.length_cons, List.length_nil]; omega
  | p :: q :: r, h => by
    have h1 := h p List.mem_cons_self
    have h2 := joinW_le (m := m) (l := q :: r) fun x hx => h x (List.mem_cons_of_mem _ hx)
    show (p ++ 59 :: 32 :: joinW (q :: r)).length ≤ _
    simp only [List.length_append, List.length_cons, Nat.add_mul] at h2 ⊢; omega
theorem goodOps_is {l : List TOp} (h : goodOps l = true) : ∀ o ∈ l, isOp o = true := fun o ho => by
  rw [goodOps_eq] at h
  unfold l5Good at h
  rw [Bool.and_eq_true, List.all_eq_true] at h
  rw [isOp_eq]; exact h.1 o ho
theorem opsB_len {l : List TOp} (h : goodOps l = true) : (opsB l).length ≤ 416 := by
  have h1 := joinW_le (m := 50) (l := l.map opB) fun p hp => by
    obtain ⟨o, ho, rfl⟩ := List.mem_map.1 hp
    exact opB_len (goodOps_is h o ho)
  have h2 := goodOps_len h
  rw [List.length_map] at h1
  unfold opsB
  have : l.length * 52 ≤ 8 * 52 := Nat.mul_le_mul_right _ h2
  omega
theorem splitK_count {sep : Str} : ∀ {k : Nat} {s : Str}, (Lib.splitK sep 0 k s).length ≤ k + 1
  | 0, s => by simp [Lib.splitK]
  | k + 1, s => by
    unfold Lib.splitK
    split
    · simp
    · have := splitK_count (sep := sep) (k := k) (s := s.drop ((Lib.index s sep).toNat + sep.length))
      simp only [List.length_cons]; omega
theorem partsI_step {W : List Str} {q : List TOp} {i : Nat} {x : Str} (h : partsI W = (partsI (W.drop i)).map (q ++ ·)) (hx : W[i]? = some x) (h2 : ¬ (splitC 32 x).length < 2) : partsI W = (partsI (W.drop (i + 1))).map ((q ++ [opOf (splitC 32 x)]) ++ ·) := by
  rw [h, drop_some hx]
  conv => lhs; unfold partsI
  rw [if_neg h2, Option.map_map]
  congr 1
  funext l; simp
theorem partsI_stop {W : List Str} {q : List TOp} {i : Nat} {x : Str} (h : partsI W = (partsI (W.drop i)).map (q ++ ·)) (hx : W[i]? = some x) (h2 : (splitC 32 x).length < 2) : partsI W = none := by
  rw [h, drop_some hx]; unfold partsI; rw [if_pos h2]; rfl
theorem partsI_end {W : List Str} {q : List TOp} {i : Nat} (h : partsI W = (partsI (W.drop i)).map (q ++ ·)) (hi : W.length ≤ i) : partsI W = some q := by
  rw [h, List.drop_eq_nil_of_le hi]; simp [partsI]
def partsX (k : Nat) (l : List Str) : Option (List TOp) := if k = 0 then partsS l else partsT l
theorem partsX_step {W : List Str} {q : List TOp} {i : Nat} {x : Str} (h : partsS W = (partsX i (W.drop i)).map (q ++ ·)) (hx : W[i]? = some x) (h2 : 0 < i → x ≠ []) : partsS W = (partsX (i + 1) (W.drop (i + 1))).map ((q ++ [opOfS (splitC 32 (if 0 < i then x.drop 1 else x))]) ++ ·) := by
  rw [h, drop_some hx]
  unfold partsX
  rw [if_neg (Nat.succ_ne_zero i)]
  by_cases hi : i = 0
  · subst hi
    rw [if_pos rfl, if_neg (Nat.lt_irrefl 0)]
    conv => lhs; unfold partsS
    rw [Option.map_map]; congr 1
    funext l; simp
  · rw [if_neg hi, if_pos (by omega)]
    conv => lhs; unfold partsT
    rw [if_neg (h2 (by omega)), Option.map_map]; congr 1
    funext l; simp
theorem partsX_stop {W : List Str} {q : List TOp} {i : Nat} {x : Str} (h : partsS W = (partsX i (W.drop i)).map (q ++ ·)) (hx : W[i]? = some x) (hi : 0 < i) (h2 : x = []) : partsS W = none := by
  rw [h, drop_some hx]; unfold partsX; rw [if_neg (by omega)]; unfold partsT; rw [if_pos h2]; rfl
theorem partsX_end {W : List Str} {q : List TOp} {i : Nat} (h : partsS W = (partsX i (W.drop i)).map (q ++ ·)) (hi : W.length ≤ i) : partsS W = some q := by
  rw [h, List.drop_eq_nil_of_le hi]; unfold partsX; split <;> simp [partsS, partsT]
theorem opsB_take {l : List TOp} (h : goodOps l = true) (i : Nat) : (opsB (l.take i)).length ≤ 416 := by
  have h1 := joinW_le (m := 50) (l := (l.take i).map opB) fun p hp => by
    obtain ⟨o, ho, rfl⟩ := List.mem_map.1 hp
    exact opB_len (goodOps_is h o (List.mem_of_mem_take ho))
  have h2 := goodOps_len h
  rw [List.length_map, List.length_take] at h1
  unfold opsB
  have : min i l.length * 52 ≤ 8 * 52 := Nat.mul_le_mul_right _ (by omega)
  omega
theorem ops_next {l : List TOp} {i : Nat} {x : TOp} (hx : l[i]? = some x) : opsB (l.take (i + 1)) = (if 0 < i then opsB (l.take i) ++ [59, 32] else opsB (l.take i)) ++ opB x := by
  rw [List.take_add_one, hx]
  by_cases hi : 0 < i
  · rw [if_pos hi]
    have hne : l.take i ≠ [] := by
      intro e
      have := (List.getElem?_eq_some_iff.1 hx).1
      rw [List.take_eq_nil_iff] at e
      rcases e with e | e
      · omega
      · subst e; simp at hx
    show opsB (l.take i ++ [x]) = _
    rw [opsB_snoc x hne, List.append_assoc]
  · rw [if_neg hi]
    have : i = 0 := by omega
    subst this
    rfl
theorem opOf_cs {w r : List Str} {y0 y1 y2 : Str} (hw : w = y0 :: y1 :: r) (h2 : 2 < (y0 :: y1 :: r).length → (y0 :: y1 :: r)[2]? = some y2) : (opOf w).cs = [AV.int (idxW y0), AV.str y1, AV.str (if (y0 :: y1 :: r).length = 3 ∧ hasValK (idxW y0) = true then y2 else []), AV.int (if (y0 :: y1 :: r).length = 3 ∧ hasByK (idxW y0) = true then (readI y2 (-9999) 9999).1 else 0)] := by
  subst hw
  have e : ∀ {b : Prop}, (y0 :: y1 :: r).length = 3 ∧ b → (y0 :: y1 :: r).getD 2 [] = y2 := fun h => by
    rw [List.getD_eq_getElem?_getD, h2 (by have := h.1; omega)]; rfl
  unfold opOf TOp.cs
  dsimp only
  congr 1
  refine congrArg (fun z => AV.str y1 :: z) ?_
  have e1 : (if (y0 :: y1 :: r).length = 3 ∧ hasValK (idxW y0) = true then (y0 :: y1 :: r).getD 2 [] else []) = if (y0 :: y1 :: r).length = 3 ∧ hasValK (idxW y0) = true then y2 else [] := by
    split
    · rename_i h; exact e h
    · rfl
  have e2 : (if (y0 :: y1 :: r).length = 3 ∧ hasByK (idxW y0) = true then (readI ((y0 :: y1 :: r).getD 2 []) (-9999) 9999).1 else 0) = if (y0 :: y1 :: r).length = 3 ∧ hasByK (idxW y0) = true then (readI y2 (-9999) 9999).1 else 0 := by
    split
    · rename_i h; rw [e h]
    · rfl
  show [AV.str (if (y0 :: y1 :: r).length = 3 ∧ hasValK (idxW y0) = true then (y0 :: y1 :: r).getD 2 [] else []), AV.int (if (y0 :: y1 :: r).length = 3 ∧ hasByK (idxW y0) = true then (readI ((y0 :: y1 :: r).getD 2 []) (-9999) 9999).1 else 0)] = _
  rw [e1, e2]
def opsTextR (l : List TOp) : Str × Bool := if goodOps l = true then (opsB l, true) else ([], false)
end Go.M

set_option linter.unusedVariables false
set_option linter.unusedSimpArgs false
namespace Go.AV
open Go.ChangeShapes Go.WideShapes Go.ChangeAt Go.RowKit

def heapR (w : World) : RHeap := fun b => w.heap[b]?
theorem heapR_le (w : World) : RLe (heapR w) w := fun _ _ h => h
theorem rcell_heap {w : World} {a : Addr} {v : Value} (h : w.cell? a = some v) : rcell (heapR w) a = some v := h

/-- Cells that read as data of type t denote some a. -/
def Opens (P : Program) (t : TypeId) (α : Type) (enc : α → List AV) (ok : α → Prop) : Prop :=
  ∀ (H : Type) (en : TypeId × Value → H) (w : World) (base : Nat) (spare : Nat → Bool) (held : Bool) (fuel : Nat) (cs : List Value) (x : DataW H × List MemPlace),
    DataW.trod en P w base spare held fuel t cs = some x → ∃ a : α, ok a ∧ DenC (heapR w) cs (enc a)
theorem denC_one {R : RHeap} {v : Value} {x : AV} (h : x.den R v) (h1 : v.oneCell' = true) : DenC R [v] [x] :=
  ⟨rfl, fun i u y hu hy => by
    cases i with
    | zero => simp at hu hy; subst hu; subst hy; exact ⟨h, h1⟩
    | succ i => simp at hu⟩
theorem denC_append {R : RHeap} {vs us : List Value} {xs ys : List AV} (h : DenC R vs xs) (k : DenC R us ys) : DenC R (vs ++ us) (xs ++ ys) :=
  ⟨by simp [h.1, k.1], fun i v x hv hx => by
    by_cases hi : i < vs.length
    · rw [List.getElem?_append_left hi] at hv
      rw [List.getElem?_append_left (by rw [← h.1]; exact hi)] at hx
      exact h.2 i v x hv hx
    · rw [List.getElem?_append_right (by omega)] at hv
      rw [List.getElem?_append_right (by rw [← h.1]; omega), ← h.1] at hx
      exact k.2 _ v x hv hx⟩
section
variable {P : Program} {t e : TypeId}
theorem opens_int {k : IntKind} (ht : P.underlying t = some (.int k)) : Opens P t Int (fun n => [AV.ik k n]) (fun n => (Lit.int k n).wf = true) := fun H en w base spare held fuel cs x h => by
  obtain ⟨n, rfl, _, hw⟩ := DataW.trod_int ht h
  exact ⟨n, hw, denC_one rfl rfl⟩
theorem opens_bool (ht : P.underlying t = some .bool) : Opens P t Bool (fun b => [AV.bool b]) (fun _ => True) := fun H en w base spare held fuel cs x h => by
  obtain ⟨b, rfl, _⟩ := DataW.trod_bool ht h
  exact ⟨b, trivial, denC_one rfl rfl⟩
theorem opens_str (ht : P.underlying t = some .string) : Opens P t (List UInt8) (fun s => [AV.str s]) (fun s => s.length ≤ 9223372036854775807) := fun H en w base spare held fuel cs x h => by
  obtain ⟨s, rfl, _, hs⟩ := DataW.trod_string ht h
  refine ⟨s.data.toList, ?_, denC_one (show _ = _ by simp) rfl⟩
  unfold maxLen at hs
  show s.data.toList.length ≤ _
  rw [Array.length_toList]
  have e : s.data.size = s.size := rfl
  omega
theorem list_of {α : Type} {p : Nat → α → Prop} : ∀ n, (∀ i, i < n → ∃ a, p i a) → ∃ l : List α, l.length = n ∧ ∀ (i : Nat) (a : α), l[i]? = some a → p i a
  | 0, _ => ⟨[], rfl, fun i a h => by simp at h⟩
  | n + 1, h => by
    obtain ⟨l, h1, h2⟩ := list_of n fun i hi => h i (by omega)
    obtain ⟨a, ha⟩ := h n (by omega)
    refine ⟨l ++ [a], by simp [h1], fun i b hb => ?_⟩
    by_cases hi : i < l.length
    · rw [List.getElem?_append_left hi] at hb; exact h2 i b hb
    · rw [List.getElem?_append_right (by omega)] at hb
      have hin : i = n := by
        have := (List.getElem?_eq_some_iff.1 hb).1
        simp at this; omega
      subst hin
      rw [h1] at hb; simp at hb; subst hb; exact ha
theorem opens_slice {α : Type} {enc : α → List AV} {ok : α → Prop} {sz : Nat} (ht : P.underlying t = some (.slice e)) (hc : P.cellsOf e = sz) (h : Opens P e α enc ok) (hl : ∀ a, (enc a).length = sz) :
    Opens P t (List α) (fun l => [AV.list sz (l.map enc)]) (fun l => ∀ a ∈ l, ok a) := fun H en w base spare held fuel cs x hx => by
  rcases DataW.trod_slice ht hx with ⟨rfl, _⟩ | ⟨a, len, cap, elems, rest, n, _, rfl, _, _, hlc, hcm, hel, hi, _, _⟩
  · exact ⟨[], by simp, denC_one ⟨none, 0, rfl, Nat.le_refl _, Nat.zero_le _, by simp, fun h => absurd rfl h⟩ rfl⟩
  · obtain ⟨l, h1, h2⟩ := list_of (p := fun i b => ok b ∧ ∃ cs', w.cells? base (a.add (i * sz)) sz = some cs' ∧ DenC (heapR w) cs' (enc b)) len fun i hil => by
      have := hi i hil
      rw [hc, List.getElem?_eq_getElem (by omega)] at this
      obtain ⟨cs', hcs, htr⟩ := Option.bind_eq_some_iff.1 this
      obtain ⟨b, hb, hd⟩ := h H en w base spare held n cs' _ htr
      exact ⟨b, hb, cs', hcs, hd⟩
    refine ⟨l, fun b hb => ?_, denC_one ⟨some a, cap, by rw [List.length_map, h1], by rw [List.length_map, h1]; exact hlc, hcm, fun ec he => ?_, fun _ => ⟨a, rfl, fun j y hy => ?_⟩⟩ rfl⟩
    · obtain ⟨i, hib⟩ := List.getElem?_of_mem hb
      exact (h2 i b hib).1
    · obtain ⟨b, _, rfl⟩ := List.mem_map.1 he
      exact hl b
    · have hun : ∀ ec ∈ l.map enc, ec.length = sz := fun ec he => by
        obtain ⟨b, _, rfl⟩ := List.mem_map.1 he
        exact hl b
      have hjl : j < l.length * sz := by
        have := (List.getElem?_eq_some_iff.1 hy).1
        rwa [flatten_len hun, List.length_map] at this
      have hsz : 0 < sz := by
        rcases Nat.eq_zero_or_pos sz with h0 | h0
        · subst h0; omega
        · exact h0
      have hij : j / sz < l.length := Nat.div_lt_of_lt_mul (by rw [Nat.mul_comm]; exact hjl)
      have hkm : j % sz < sz := Nat.mod_lt _ hsz
      have hjj : j / sz * sz + j % sz = j := by rw [Nat.mul_comm]; exact Nat.div_add_mod j sz
      have hb : l[j / sz]? = some l[j / sz] := List.getElem?_eq_getElem hij
      obtain ⟨_, cs', hcs, hd⟩ := h2 _ _ hb
      obtain ⟨_, hcl, hat⟩ := World.cells?_some hcs
      have hk : (enc l[j / sz])[j % sz]? = some ((enc l[j / sz])[j % sz]'(by rw [hl]; exact hkm)) := List.getElem?_eq_getElem _
      have hyk := flatten_get hun (i := j / sz) (e := enc l[j / sz]) (by rw [List.getElem?_map, hb]; rfl) hk
      rw [hjj, hy] at hyk
      injection hyk with hyk
      have hv : cs'[j % sz]? = some (cs'[j % sz]'(by rw [hcl]; exact hkm)) := List.getElem?_eq_getElem _
      have hcell := hat (j % sz) hkm
      rw [hv, add_add, hjj] at hcell
      refine ⟨_, rcell_heap hcell, ?_⟩
      have := hd.2 _ _ _ hv hk
      rw [hyk]; exact this
/-- The fields of a struct, from an offset on. -/
def OpensF (P : Program) (fs : List Field) (off : Nat) (α : Type) (enc : α → List AV) (ok : α → Prop) (total : Nat) : Prop :=
  ∀ (H : Type) (en : TypeId × Value → H) (w : World) (base : Nat) (spare : Nat → Bool) (held : Bool) (fuel : Nat) (cs : List Value), cs.length = total →
    (∀ f ∈ fs, ∃ x, DataW.trod en P w base spare held fuel f.type ((cs.drop f.offset).take (P.cellsOf f.type)) = some x) → ∃ a : α, ok a ∧ DenC (heapR w) (cs.drop off) (enc a)
theorem opensF_nil {total : Nat} : OpensF P [] total Unit (fun _ => []) (fun _ => True) total := fun H en w base spare held fuel cs hl _ =>
  ⟨(), trivial, by rw [List.drop_eq_nil_of_le (by omega)]; exact ⟨rfl, fun i v x h => by simp at h⟩⟩
theorem opensF_cons {α β : Type} {f : Field} {fs : List Field} {off m total : Nat} {enc : α → List AV} {enc' : β → List AV} {ok : α → Prop} {ok' : β → Prop} (h : Opens P f.type α enc ok) (ho : f.offset = off) (hm : P.cellsOf f.type = m)
    (k : OpensF P fs (off + m) β enc' ok' total) : OpensF P (f :: fs) off (α × β) (fun a => enc a.1 ++ enc' a.2) (fun a => ok a.1 ∧ ok' a.2) total := fun H en w base spare held fuel cs hl hf => by
  obtain ⟨x, hx⟩ := hf f (by simp)
  rw [ho, hm] at hx
  obtain ⟨a, h1, h2⟩ := h H en w base spare held fuel _ x hx
  obtain ⟨b, h3, h4⟩ := k H en w base spare held fuel cs hl fun g hg => hf g (by simp [hg])
  refine ⟨(a, b), ⟨h1, h3⟩, ?_⟩
  have := denC_append h2 h4
  rwa [← List.drop_drop, List.take_append_drop] at this
theorem opens_struct {α : Type} {fs : Array Field} {enc : α → List AV} {ok : α → Prop} {total : Nat} (ht : P.underlying t = some (.struct fs)) (hc : P.cellsOf t = total) (h : OpensF P fs.toList 0 α enc ok total) : Opens P t α enc ok := fun H en w base spare held fuel cs x hx => by
  obtain ⟨xs, n, _, _, hl, hxl, hf⟩ := DataW.trod_struct ht hx
  obtain ⟨a, h1, h2⟩ := h H en w base spare held n cs (by rw [hl, hc]) fun f hfm => by
    obtain ⟨i, hi⟩ := List.getElem?_of_mem hfm
    have hi' : fs[i]? = some f := by rw [← Array.getElem?_toList]; exact hi
    have hlt : i < xs.length := by
      have := (Array.getElem?_eq_some_iff.1 hi').1
      omega
    exact ⟨xs[i], (hf i f hi').trans (List.getElem?_eq_getElem hlt)⟩
  exact ⟨a, h1, by simpa using h2⟩
theorem opens_map {α β : Type} {enc : α → List AV} {enc' : β → List AV} {ok : α → Prop} {ok' : β → Prop} (f : α → β) (h : Opens P t α enc ok) (he : ∀ a, enc' (f a) = enc a) (ho : ∀ a, ok a → ok' (f a)) : Opens P t β enc' ok' := fun H en w base spare held fuel cs x hx => by
  obtain ⟨a, h1, h2⟩ := h H en w base spare held fuel cs x hx
  exact ⟨f a, ho a h1, by rw [he]; exact h2⟩
/-- An argument that is a struct. -/
theorem arg_agg {H : Type} {en : TypeId × Value → H} {W : World} {base b0 : Nat} {spare : Nat → Bool} {held : Bool} {r : Reach} {α : Type} {fs : Array Field} {enc : α → List AV} {ok : α → Prop} {v : Value} {d : DataW H} {p : List MemPlace}
    (h : Opens P t α enc ok) (ht : P.underlying t = some (.struct fs)) (hv : Value.okWide P W r b0 t v) (hd : DataW.Trod en P W base spare held t v d p) : ∃ a, ok a ∧ (AV.agg (enc a)).den (heapR W) v := by
  obtain ⟨cs, rfl, _⟩ := okWide_struct ht hv
  obtain ⟨fuel, hf⟩ := hd
  obtain ⟨a, h1, h2⟩ := h H en W base spare held fuel _ _ hf
  exact ⟨a, h1, cs.toList, rfl, h2⟩
/-- An argument of one cell. -/
theorem arg_one {H : Type} {en : TypeId × Value → H} {W : World} {base : Nat} {spare : Nat → Bool} {held : Bool} {α : Type} {enc : α → AV} {ok : α → Prop} {v : Value} {d : DataW H} {p : List MemPlace}
    (h : Opens P t α (fun a => [enc a]) ok) (h1 : v.cells = #[v]) (hd : DataW.Trod en P W base spare held t v d p) : ∃ a, ok a ∧ (enc a).den (heapR W) v := by
  obtain ⟨fuel, hf⟩ := hd
  rw [h1] at hf
  obtain ⟨a, h2, h3⟩ := h H en W base spare held fuel _ _ hf
  exact ⟨a, h2, (h3.2 0 v _ rfl rfl).1⟩
theorem law_calls {f : FuncId} {xs : List AV} {b : Bool} {W : World} {vs : List Value} (h : FSpec P f xs (AV.bool b)) (hd : DenV (heapR W) vs xs) :
    Calls P f vs.toArray W fun e w' => e = .returned (.bool b) ∧ Below W.heap.size W w' :=
  (h (heapR W) W vs (heapR_le W) hd).mono fun e w' ⟨v, R', h1, h2, _, _, h5⟩ => ⟨by rw [h1]; exact congrArg Ending.returned h2, h5⟩
end
end Go.AV

set_option linter.unusedVariables false
set_option linter.unusedSimpArgs false
namespace Go.AV
def AV.wt (T : World → Prop) (x : AV) : AV := ⟨fun R v => x.den R v ∧ ∀ w' : World, RLe R w' → T w', fun h ⟨a, b⟩ => ⟨x.mono h a, fun w' hw => b w' fun b o e => hw b o (h b o e)⟩⟩
section
variable {P : Program} {G : Nat → Prop} {n : Nat} {own : List Own} {o : Oper} {E : EnvF}
theorem evb_wt {p : Operand} {x : AV} {T T' : World → Prop} (i : Nat) (hi : own[i]? = some (.tab T')) (hT : ∀ w, T' w → T w) (h : EvB own E p x) : EvB own E p (AV.wt T x) := fun G w0 R0 R a w hc he =>
  ⟨h G w0 R0 R a w hc he, fun w' hw' => hT w' ((hc.owned _ (List.mem_of_getElem? hi)) w' fun b o e => hw' b o (lend_sub hc b o e))⟩
theorem core_tab {w0 w : World} {R0 R : RHeap} {T : World → Prop} (h : Core G w0 R0 own R w) (ht : ∀ w' : World, RLe R w' → T w') : Core G w0 R0 (.tab T :: own) R w where
  os := h.os
  tape := h.tape
  output := h.output
  size := h.size
  block := h.block
  rle := h.rle
  rold := h.rold
  owned o ho := by
    rcases List.mem_cons.1 ho with rfl | ho
    · exact ht
    · exact h.owned o ho
  fresh o ho b hb := by
    rcases List.mem_cons.1 ho with rfl | ho
    · cases hb
    · exact h.fresh o ho b hb
  sep := by
    rw [List.filterMap_cons]
    exact h.sep
theorem le_tab {env : List (Nat × AV)} {t : Nat} {x : AV} {T : World → Prop} (ht : getv t env = some (AV.wt T x)) : Le G n ⟨own, env⟩ ⟨.tab T :: own, (t, x) :: env⟩ := fun w0 R0 R a w ⟨h1, h2, h3⟩ => by
  have hx := h2 t _ ht
  refine ⟨R, RSub.refl _, core_tab h1 hx.2, fun k z hz => ?_, h3⟩
  simp only [getv] at hz
  by_cases hk : t = k
  · subst hk
    simp [Nat.beq_refl] at hz
    rw [← hz]
    exact hx.1
  · rw [nat_beq_ne hk, cond_false] at hz
    exact h2 k z hz
/-- A contract of the library whose road reads a table. -/
theorem fspec_wt {f : FuncId} {x y : AV} {T : World → Prop} (h : ∀ (R : RHeap) (w : World) (v : Value), RLe R w → x.den R v → T w → Calls P f #[v] w fun e w' => ∃ u, e = .returned u ∧ y.den R u ∧ Go.RowKit.Below w.heap.size w w') : FSpec P f [AV.wt T x] y := fun R w vs hr hd => by
  match vs, hd.1 with
  | [v], _ =>
    have h1 := hd.2 0 v _ rfl rfl
    refine (h R w v hr h1.1 (h1.2 w hr)).mono fun e w' ⟨u, h2, h3, h4⟩ => ⟨u, R, h2, h3, fun b o hb => ?_, fun _ _ => rfl, h4⟩
    have hb2 := hr b o hb
    rw [h4.block b (Array.getElem?_eq_some_iff.1 hb2).1]; exact hb2
theorem below_grown (w : World) (k : Nat) (os : Array Obj) : Go.RowKit.Below w.heap.size w (Go.Sort.grow (w.drewN k) os) :=
  ⟨rfl, rfl, rfl, by rw [Go.Sort.size_grow]; exact Nat.le_add_right _ _, fun b hb => Go.Sort.heap_grow_old (w.drewN k) os hb⟩
theorem tabIs_heap {P : Program} {W w' : World} {name : String} {k : IntKind} {zs : List Int} (h : Lib.TabIs P W name k zs) (hw : RLe (heapR W) w') : Lib.TabIs P w' name k zs := by
  unfold Lib.TabIs World.var? at h ⊢
  cases hg : P.globalNamed name with
  | none => rw [hg] at h; cases h
  | some g =>
    rw [hg] at h
    simp only [Option.bind_some] at h ⊢
    cases ho : W.heap[g]? with
    | none => rw [ho] at h; cases h
    | some o =>
      rw [ho] at h
      rw [hw g o ho]
      exact h
end
end Go.AV
