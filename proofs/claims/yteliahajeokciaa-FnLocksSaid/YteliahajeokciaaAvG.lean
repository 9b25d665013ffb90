/- Contracts with own memory: what a call takes over, gives back, and makes; what is owned is lent or sealed. -/
import Derived.Test.YteliahajeokciaaAvArr
set_option linter.unusedVariables false
set_option linter.unusedSimpArgs false
namespace Go.AV
open Go.RowKit (Below)
/-! ### A choice out of what is owned -/
def pick : List Own → List Nat → List Own × List Own
  | own, [] => ([], own)
  | own, i :: is => match own[i]? with
    | some x => (x :: (pick (own.eraseIdx i) is).1, (pick (own.eraseIdx i) is).2)
    | none => ([], own)
theorem perm_erase {x : Own} : ∀ {l : List Own} {i : Nat}, l[i]? = some x → l.Perm (x :: l.eraseIdx i)
  | [], _, h => by simp at h
  | y :: l, 0, h => by simp at h; subst h; exact List.Perm.refl _
  | y :: l, i + 1, h => by
    have := perm_erase (l := l) (i := i) (by simpa using h)
    exact (List.Perm.cons y this).trans (List.Perm.swap x y _)
theorem pick_perm : ∀ (is : List Nat) (own : List Own), own.Perm ((pick own is).1 ++ (pick own is).2)
  | [], own => List.Perm.refl _
  | i :: is, own => by
    unfold pick
    cases hi : own[i]? with
    | none => exact List.Perm.refl _
    | some x => exact (perm_erase hi).trans (List.Perm.cons x (pick_perm is _))
section
variable {P : Program} {G : Nat → Prop} {n : Nat} {own : List Own} {o : Oper} {E : EnvF}
theorem core_perm {own' : List Own} {w0 : World} {R0 R : RHeap} {w : World} (h : Core G w0 R0 own R w) (hp : own.Perm own') : Core G w0 R0 own' R w :=
  ⟨h.os, h.tape, h.output, h.size, h.block, h.rle, h.rold, fun o ho => h.owned o (hp.symm.subset ho), fun o ho => h.fresh o (hp.symm.subset ho), (hp.filterMap _).nodup_iff.1 h.sep⟩
theorem core_pick {is : List Nat} {sel rest : List Own} {w0 : World} {R0 R : RHeap} {w : World} (h : Core G w0 R0 own R w) (hp : pick own is = (sel, rest)) : Core G w0 R0 (sel ++ rest) R w := by
  have := pick_perm is own
  rw [hp] at this
  exact core_perm h this
theorem core_left {a b : List Own} {w0 : World} {R0 R : RHeap} {w : World} (h : Core G w0 R0 (a ++ b) R w) : Core G w0 R0 a R w := core_sub h (List.sublist_append_left a b)
theorem core_right {a b : List Own} {w0 : World} {R0 R : RHeap} {w : World} (h : Core G w0 R0 (a ++ b) R w) : Core G w0 R0 b R w := core_sub h (List.sublist_append_right a b)
theorem sep_apart {a b : List Own} (h : ((a ++ b).filterMap Own.blk).Nodup) {x y : Own} (hx : x ∈ a) (hy : y ∈ b) {k : Nat} (h1 : Own.blk x = some k) : Own.blk y ≠ some k := fun h2 => by
  rw [List.filterMap_append] at h
  exact (List.nodup_append.1 h).2.2 k (List.mem_filterMap.2 ⟨x, hx, h1⟩) k (List.mem_filterMap.2 ⟨y, hy, h2⟩) rfl

/-! ### Lent and sealed -/
/-- What denotes x denotes y while these are lent. -/
def LendTo (own : List Own) (x y : AV) : Prop :=
  ∀ (G : Nat → Prop) (w0 : World) (R0 R : RHeap) (w : World) (v : Value), Core G w0 R0 own R w → x.den R v → y.den (lend own w R) v
theorem lt_refl {x : AV} : LendTo own x x := fun G w0 R0 R w v hc h => x.mono (lend_sub hc) h
def LendC (own : List Own) (xs ys : List AV) : Prop := xs.length = ys.length ∧ ∀ (i : Nat) (x y : AV), xs[i]? = some x → ys[i]? = some y → LendTo own x y
theorem lc_nil : LendC own [] [] := ⟨rfl, fun i x y h => by simp at h⟩
theorem lc_cons {x y : AV} {xs ys : List AV} (h : LendTo own x y) (k : LendC own xs ys) : LendC own (x :: xs) (y :: ys) := ⟨by simp [k.1], fun i u v hu hv => by
  cases i with
  | zero => simp at hu hv; subst hu; subst hv; exact h
  | succ i => exact k.2 i u v (by simpa using hu) (by simpa using hv)⟩
theorem lc_refl : ∀ {xs : List AV}, LendC own xs xs
  | [] => lc_nil
  | _ :: _ => lc_cons lt_refl lc_refl
theorem lc_append {xs ys xs' ys' : List AV} (h : LendC own xs ys) (k : LendC own xs' ys') : LendC own (xs ++ xs') (ys ++ ys') := ⟨by simp [h.1, k.1], fun i u v hu hv => by
  by_cases hi : i < xs.length
  · rw [List.getElem?_append_left hi] at hu
    rw [List.getElem?_append_left (by rw [← h.1]; exact hi)] at hv
    exact h.2 i u v hu hv
  · rw [List.getElem?_append_right (by omega)] at hu
    rw [List.getElem?_append_right (by rw [← h.1]; omega), ← h.1] at hv
    exact k.2 _ u v hu hv⟩
theorem lt_agg {xs ys : List AV} (h : LendC own xs ys) : LendTo own (AV.agg xs) (AV.agg ys) := fun G w0 R0 R w v hc ⟨vs, e, hl, hd⟩ =>
  ⟨vs, e, hl.trans h.1, fun i u y hu hy => by
    have hi : i < xs.length := by rw [h.1]; exact (List.getElem?_eq_some_iff.1 hy).1
    have hx := List.getElem?_eq_getElem hi
    obtain ⟨h1, h2⟩ := hd i u _ hu hx
    exact ⟨h.2 i _ y hx hy G w0 R0 R w u hc h1, h2⟩⟩
theorem lt_tup {xs ys : List AV} (h : LendC own xs ys) : LendTo own (AV.tup xs) (AV.tup ys) := fun G w0 R0 R w v hc ⟨vs, e, hl, hd⟩ =>
  ⟨vs, e, hl.trans h.1, fun i u y hu hy => by
    have hi : i < xs.length := by rw [h.1]; exact (List.getElem?_eq_some_iff.1 hy).1
    have hx := List.getElem?_eq_getElem hi
    exact h.2 i _ y hx hy G w0 R0 R w u hc (hd i u _ hu hx)⟩
def LendE (own : List Own) (es fs : List (List AV)) : Prop := es.length = fs.length ∧ ∀ (i : Nat) (e f : List AV), es[i]? = some e → fs[i]? = some f → LendC own e f
theorem le_refl_e {es : List (List AV)} : LendE own es es := ⟨rfl, fun i e f h k => by rw [h] at k; injection k with k; subst k; exact lc_refl⟩
theorem lc_flat : ∀ {es fs : List (List AV)}, LendE own es fs → LendC own es.flatten fs.flatten
  | [], [], _ => lc_nil
  | e :: es, f :: fs, h => by
    simp only [List.flatten_cons]
    refine lc_append (h.2 0 e f rfl rfl) (lc_flat ⟨by simpa using h.1, fun i a b ha hb => h.2 (i + 1) a b (by simpa using ha) (by simpa using hb)⟩)
  | [], _ :: _, h => by have := h.1; simp at this
  | _ :: _, [], h => by have := h.1; simp at this
theorem lt_arr {v : Value} {t : TypeId} {sz : Nat} {es fs : List (List AV)} (hm : Own.arr v t sz es ∈ own) (h : LendE own es fs) : LendTo own (AV.is v) (AV.list sz fs) := fun G w0 R0 R w u hc hu => by
  cases (show u = v from hu)
  obtain ⟨i, hi⟩ := List.getElem?_of_mem hm
  obtain ⟨oa, c, e1, h1, h2, h3, h4⟩ := arr_list hc i hi
  obtain ⟨_, hun, xs, hown, hd⟩ := hc.owned _ hm
  have hfl : ∀ f ∈ fs, f.length = sz := fun f hf => by
    obtain ⟨j, hj⟩ := List.getElem?_of_mem hf
    have hjl : j < es.length := by rw [h.1]; exact (List.getElem?_eq_some_iff.1 hj).1
    have he := List.getElem?_eq_getElem hjl
    rw [← (h.2 j _ f he hj).1]
    exact hun _ (List.mem_of_getElem? he)
  refine ⟨oa, c, by rw [← h.1]; exact e1, by rw [← h.1]; exact h1, h2, hfl, fun hne => ?_⟩
  have hne' : es ≠ [] := fun e => hne (by subst e; exact List.eq_nil_of_length_eq_zero (by simpa using h.1.symm))
  obtain ⟨a, ea, hca⟩ := h4 hne'
  refine ⟨a, ea, fun j y hy => ?_⟩
  have hlc := lc_flat h
  have hj : j < es.flatten.length := by rw [hlc.1]; exact (List.getElem?_eq_some_iff.1 hy).1
  have hx := List.getElem?_eq_getElem hj
  obtain ⟨u, hu1, hu2, hu3⟩ := hca j _ hx
  refine ⟨u, hu1, ?_, hu3⟩
  have hjx : j < xs.length := by rw [hd.1]; exact hj
  have hvx := List.getElem?_eq_getElem hjx
  rcases hown.2 with ⟨rfl, hz⟩ | ⟨g, cap, cur, rfl, _, hg, hn2, hmx, hcs, htake⟩
  · have : es = [] := List.eq_nil_of_length_eq_zero hz
    exact absurd this hne'
  · have hl : lend own w R g = some (.cells cur t (0, 0)) := by
      unfold lend
      rw [ownB_mem hm rfl]; exact hg
    injection e1 with e1a
    subst ea
    have ha : a = ⟨g, 0, none⟩ := by injection e1a with e; exact e.symm
    subst ha
    have hcur : cur[j]? = some xs[j] := by
      have hq : xs[j]? = cur.toList[j]? := by rw [← htake, List.getElem?_take_of_lt (by rw [← hown.1]; exact hjx)]
      rw [← Array.getElem?_toList, ← hq, hvx]
    rw [addr_add, Nat.zero_add] at hu1
    simp only [rcell, hl, Option.isSome_none, Bool.false_eq_true, if_false, hcur, Option.some.injEq] at hu1
    subst hu1
    exact hlc.2 j _ y hx hy G w0 R0 R w _ hc (hd.2 j _ _ hvx hx).1
theorem lt_box {b : Nat} {t : TypeId} {cs : List AV} (hm : Own.box b t cs ∈ own) : LendTo own (AV.ptr b 0) (AV.eptr cs) := fun G w0 R0 R w u hc hu => by
  cases (show u = _ from hu)
  obtain ⟨i, hi⟩ := List.getElem?_of_mem hm
  exact ptr_eptr hc i hi
theorem evb_lt {p : Operand} {x y : AV} (h : Ev E p x) (k : LendTo own x y) : EvB own E p y := fun G w0 R0 R a w hc he => k G w0 R0 R w _ hc (h R a he)
/-- Some of what is owned is sealed. -/
theorem core_seal {sel rest : List Own} {w0 : World} {R0 R : RHeap} {w : World} (h : Core G w0 R0 (sel ++ rest) R w) (hG : ∀ b, ¬ G b) : Core G w0 R0 rest (lend sel w R) w := by
  have hl := core_left h
  refine ⟨h.os, h.tape, h.output, h.size, h.block, lend_le hl, fun b hb => ?_, fun q hq => ?_, fun q hq => h.fresh q (List.mem_append_right _ hq), (core_right h).sep⟩
  · unfold lend
    cases hob : ownB sel b with
    | true =>
      obtain ⟨x, hx, hxb⟩ := ownB_true hob
      have := (h.fresh x (List.mem_append_left _ hx) b hxb).resolve_right (hG b)
      omega
    | false => exact h.rold b hb
  · have hk := h.owned q (List.mem_append_right _ hq)
    refine Own.ok_keep hk (lend_sub hl) fun b hb => ⟨rfl, ?_⟩
    unfold lend
    cases hob : ownB sel b with
    | true =>
      obtain ⟨x, hx, hxb⟩ := ownB_true hob
      exact absurd hb (sep_apart h.sep hx hq hxb)
    | false => exact (Own.ok_blk hk hb).1
theorem le_sealG {env : List (Nat × AV)} {sel rest : List Own} {x y : AV} (is : List Nat) (t : Nat) (hp : pick own is = (sel, rest)) (ht : getv t env = some x) (hl : LendTo sel x y) (hG : ∀ b, ¬ G b) : Le G n ⟨own, env⟩ ⟨rest, (t, y) :: env⟩ := fun w0 R0 R a w ⟨h1, h2, h3⟩ => by
  have hc := core_pick h1 hp
  refine ⟨lend sel w R, lend_sub (core_left hc), core_seal hc hG, fun k z hz => ?_, h3⟩
  simp only [getv] at hz
  by_cases hk : t = k
  · subst hk
    simp [Nat.beq_refl] at hz
    rw [← hz]
    exact hl G w0 R0 R w _ (core_left hc) (h2 t x ht)
  · rw [nat_beq_ne hk, cond_false] at hz
    exact z.mono (lend_sub (core_left hc)) (h2 k z hz)
theorem awp_sealG {c : Code} {Q : Exit → AState → Prop} {env : List (Nat × AV)} {sel rest : List Own} {x y : AV} (is : List Nat) (t : Nat) (hp : pick own is = (sel, rest)) (ht : getv t env = some x) (hl : LendTo sel x y) (k : AWP P (fun _ => False) n c Q ⟨rest, (t, y) :: env⟩) : AWP P (fun _ => False) n c Q ⟨own, env⟩ :=
  AWP.le (le_sealG is t hp ht hl no_G) k
theorem sq_sealG {ops : Array Oper} {rs : List Oper} {K : AState → Prop} {env : List (Nat × AV)} {sel rest : List Own} {x y : AV} (is : List Nat) (t : Nat) (hp : pick own is = (sel, rest)) (ht : getv t env = some x) (hl : LendTo sel x y) (k : ASeq P (fun _ => False) n ops (o :: rs) ⟨rest, (t, y) :: env⟩ K) : ASeq P (fun _ => False) n ops (o :: rs) ⟨own, env⟩ K :=
  sq_le (le_sealG is t hp ht hl no_G) k

/-! ### Contracts -/
def blksOf (ow : List Own) (b : Nat) : Prop := ∃ o ∈ ow, Own.blk o = some b
def GSpec (P : Program) (f : FuncId) (xs : List AV) (ow : List Own) {α : Type} (ok : α → Prop) (O : α → List Own) (V : α → AV) : Prop :=
  ∀ (R : RHeap) (w : World) (vs : List Value), RLe R w → DenV R vs xs → (∀ o ∈ ow, Own.ok R w o) → (ow.filterMap Own.blk).Nodup →
    Calls P f vs.toArray w fun e w' => ∃ a v R', ok a ∧ e = .returned v ∧ (V a).den R' v ∧ Core (blksOf ow) w R (O a) R' w'
section
variable {α : Type} {ok : α → Prop} {O : α → List Own} {V : α → AV}
def RetOkG (P : Program) (G : Nat → Prop) (n : Nat) (fn : Func) (s : AState) {α : Type} (ok : α → Prop) (O : α → List Own) (V : α → AV) : Prop :=
  ∀ w0 R0 R a w, St G n w0 R0 s R a w → ∃ x v R', ok x ∧ (results fn a.tmps).run P w = .ok v w ∧ (V x).den R' v ∧ RSub R R' ∧ Core G w0 R0 (O x) R' w
def RetPostG (P : Program) (G : Nat → Prop) (n : Nat) (fn : Func) {α : Type} (ok : α → Prop) (O : α → List Own) (V : α → AV) : Exit → AState → Prop
  | .normal, s => RetOkG P G n fn s ok O V
  | .ret, s => RetOkG P G n fn s ok O V
  | _, _ => False
theorem gspec_of_awp {f : FuncId} {fn : Func} {c : Code} {xs : List AV} {ow : List Own} (hf : P.funcs[f]? = some fn) (hb : fn.body = some c) (hn : fn.ntmps = n) (hx' : Nat.ble xs.length n = true)
    (h : AWP P (blksOf ow) n c (RetPostG P (blksOf ow) n fn ok O V) ⟨ow, enumA 0 xs⟩) : GSpec P f xs ow ok O V := fun R w vs hr hd hok hnd => by
  have hlen : vs.length = xs.length := hd.1
  have hx : xs.length ≤ n := Nat.le_of_ble_eq_true hx'
  have hcore : Core (blksOf ow) w R ow R w := ⟨rfl, rfl, rfl, Nat.le_refl _, fun _ _ _ => rfl, hr, fun _ _ => rfl, hok, fun o ho b hb => .inr ⟨o, ho, hb⟩, hnd⟩
  refine calls_of_wp hf hb ?_
  refine wp_mono (h w R R { tmps := vs.toArray ++ Array.replicate (fn.ntmps - vs.toArray.size) undef, defers := [] } w ⟨hcore, fun t x hx => ?_, ?_, rfl⟩) fun e a' w' ⟨s', R', q, r1, r2⟩ => ?_
  · obtain ⟨_, h2⟩ := getv_enumA xs 0 t x hx
    have hlt : t < xs.length := (List.getElem?_eq_some_iff.1 h2).1
    have hv : vs[t]? = some vs[t] := List.getElem?_eq_getElem (by omega)
    have hg : (vs.toArray ++ Array.replicate (fn.ntmps - vs.toArray.size) undef).getD t undef = vs[t] := by
      rw [Array.getD_eq_getD_getElem?, Array.getElem?_append_left (by simp; omega)]
      simp [hv]
    rw [hg]
    exact hd.2 t _ x hv h2
  · simp; omega
  · have fin : RetOkG P (blksOf ow) n fn s' ok O V → a'.defers = [] ∧ ∃ v, (results fn a'.tmps).run P w' = .ok v w' ∧ ∃ a v_1 R', ok a ∧ Ending.returned v = .returned v_1 ∧ (V a).den R' v_1 ∧ Core (blksOf ow) w R (O a) R' w' := fun hq => by
      obtain ⟨x, v, R2, h0, h1, h2, h3, h4⟩ := hq w R R' a' w' r2
      exact ⟨r2.2.2.2, v, h1, x, v, R2, h0, rfl, h2, h4⟩
    cases e with
    | normal => exact fin q
    | ret => exact fin q
    | _ => exact q.elim
theorem retG {fn : Func} {s : AState} {sel rest : List Own} (is : List Nat) (x : α) (hx : ok x) (hp : pick s.own is = (sel, rest)) (ho : O x = sel) (h : ∀ w0 R0 R a w, St G n w0 R0 s R a w → ∃ v, (results fn a.tmps).run P w = .ok v w ∧ (V x).den R v) : RetOkG P G n fn s ok O V := fun w0 R0 R a w hs => by
  obtain ⟨v, h1, h2⟩ := h w0 R0 R a w hs
  exact ⟨x, v, R, hx, h1, h2, RSub.refl _, by rw [ho]; exact core_left (core_pick hs.1 hp)⟩
theorem resR {fn : Func} {r : ResultVar} {s : AState} {y : AV} (hr : fn.results = #[r]) (hy : RvDen P G n s r y) : ∀ w0 R0 R a w, St G n w0 R0 s R a w → ∃ v, (results fn a.tmps).run P w = .ok v w ∧ y.den R v := fun w0 R0 R a w hs => by
  obtain ⟨v, h1, h2⟩ := hy w0 R0 R a w hs
  refine ⟨v, ?_, h2⟩
  have := run_results (P := P) (rs := [r]) (vs := [v]) (w := w) (tmps := a.tmps) hr (by simp only [List.mapM_cons, List.mapM_nil, Sem.run_bind, h1, Result.andThen_ok, Sem.run_pure])
  simpa using this
theorem allRv_len {s : AState} : ∀ {rs : List ResultVar} {ys : List AV}, AllRv P G n s rs ys → rs.length = ys.length
  | [], [], _ => rfl
  | _ :: _, _ :: _, h => by simp [allRv_len h.2]
  | [], _ :: _, h => h.elim
  | _ :: _, [], h => h.elim
theorem resN {fn : Func} {rs : List ResultVar} {s : AState} {ys : List AV} (hr : fn.results = rs.toArray) (hl : rs.length ≠ 1) (hy : AllRv P G n s rs ys) : ∀ w0 R0 R a w, St G n w0 R0 s R a w → ∃ v, (results fn a.tmps).run P w = .ok v w ∧ (AV.tup ys).den R v := fun w0 R0 R a w hs => by
  obtain ⟨vs, h1, h2⟩ := allRv_run hs hy
  refine ⟨_, run_results hr h1, ?_⟩
  rw [dif_neg (by simp [h2.1, ← allRv_len hy]; exact hl)]
  exact ⟨vs, rfl, h2⟩
/-- After a call: what it was given is gone, what it gives is owned. -/
theorem core_after {sel rest new : List Own} {w0 : World} {R0 R R' : RHeap} {w w' : World} (h : Core G w0 R0 (sel ++ rest) R w) (k : Core (blksOf sel) w R new R' w') : Core G w0 R0 (new ++ rest) R' w' := by
  have hrest : ∀ q ∈ rest, ∀ b, Own.blk q = some b → w'.heap[b]? = w.heap[b]? ∧ R' b = none := fun q hq b hb => by
    obtain ⟨k1, k2⟩ := Own.ok_blk (h.owned q (List.mem_append_right _ hq)) hb
    exact ⟨k.block b k2 fun ⟨x, hx, hxb⟩ => sep_apart h.sep hx hq hxb hb, (k.rold b k2).trans k1⟩
  refine ⟨k.os.trans h.os, k.tape.trans h.tape, k.output.trans h.output, Nat.le_trans h.size k.size, fun b hb hG => ?_, k.rle, fun b hb => (k.rold b (Nat.lt_of_lt_of_le hb h.size)).trans (h.rold b hb), fun q hq => ?_, fun q hq b hb => ?_, ?_⟩
  · refine (k.block b (Nat.lt_of_lt_of_le hb h.size) fun ⟨x, hx, hxb⟩ => ?_).trans (h.block b hb hG)
    rcases h.fresh x (List.mem_append_left _ hx) b hxb with h1 | h1
    · omega
    · exact hG h1
  · rcases List.mem_append.1 hq with h1 | h1
    · exact k.owned q h1
    · exact Own.ok_keep (h.owned q (List.mem_append_right _ h1)) (rsub_of h.rle k.rold) (hrest q h1)
  · rcases List.mem_append.1 hq with h1 | h1
    · rcases k.fresh q h1 b hb with h2 | ⟨x, hx, hxb⟩
      · exact .inl (Nat.le_trans h.size h2)
      · exact h.fresh x (List.mem_append_left _ hx) b hxb
    · exact h.fresh q (List.mem_append_right _ h1) b hb
  · rw [List.filterMap_append]
    refine List.nodup_append.2 ⟨k.sep, (core_right h).sep, fun b hb c hc hbc => ?_⟩
    subst hbc
    obtain ⟨x, hx, hxb⟩ := List.mem_filterMap.1 hb
    obtain ⟨y, hy, hyb⟩ := List.mem_filterMap.1 hc
    rcases k.fresh x hx b hxb with h2 | ⟨z, hz, hzb⟩
    · have := (Own.ok_blk (h.owned y (List.mem_append_right _ hy)) hyb).2
      omega
    · exact sep_apart h.sep hz hy hzb hyb
theorem sq_callG {ops : Array Oper} {rs : List Oper} {env : List (Nat × AV)} {K : AState → Prop} {d : Nat} {f : FuncId} {args : Array Operand} {tys : Array TypeId} {ps : List Operand} {xs : List AV} {sel rest : List Own} (is : List Nat) (hg : o.guard = none) (ho : o.op = .call { callee := .value (.func f), args := args, argTypes := tys }) (hd : o.dst = some d) (hn : Nat.blt d n = true)
    (hc : ∀ (vs : Array Value) (w : World), (callFunc f vs).run P w = .ok (.enter f vs) w) (hps : args.toList = ps) (hs : GSpec P f xs sel ok O V) (he : EvL (getv · env) ps xs) (hp : pick own is = (sel, rest))
    (k : ∀ a, ok a → ASeq P G n ops rs ⟨O a ++ rest, (d, V a) :: env⟩ K) : ASeq P G n ops (o :: rs) ⟨own, env⟩ K :=
  opS_run hg fun w0 R0 R a w ⟨h1, h2, h3, h4⟩ => by
    have hcore := core_pick h1 hp
    have hden := evl_use (o := o) (fun t _ y hy => h2 t y hy) he fun p hp => by simp [ho, Op.operands, Call.operands]; right; rw [← hps] at hp; exact Array.mem_toList_iff.1 hp
    have hrun : (execOp a.eval o).run P w = .ok (.enter f (ps.map a.eval).toArray) w := by
      have hargs : args.map a.eval = (ps.map a.eval).toArray := by rw [← hps]; cases args; simp
      simp only [execOp, ho, resolve, hargs, show a.eval (.func f) = .func (.func f) #[] #[] from rfl]
      simp [Deferred.ofValue, invoke, hc]
    unfold Oper.wp
    rw [hrun, Oper.upon_enter]
    refine (hs R w _ hcore.rle hden (fun q hq => hcore.owned q (List.mem_append_left _ hq)) (core_left hcore).sep).mono fun e w' ⟨x, v, R', e0, e1, e2, e3⟩ => ?_
    subst e1
    have hR := rsub_of hcore.rle e3.rold
    refine ⟨⟨O x ++ rest, (d, V x) :: env⟩, R', k x e0, hR, core_after hcore e3, ?_, by rw [size_put]; exact h3, by rw [defers_put]; exact h4⟩
    rw [hd]
    exact env_put h2 hR (by rw [h3]; exact Nat.blt_eq.mp hn) e2

/-! ### While the rest is lent -/
def FlatO : Own → Prop
  | .box _ _ cs => ∀ c ∈ cs, Flat c
  | .arr _ _ _ es => ∀ e ∈ es, ∀ c ∈ e, Flat c
theorem denC_flat {R R' : RHeap} {vs : List Value} {cs : List AV} (h : DenC R vs cs) (hf : ∀ c ∈ cs, Flat c) : DenC R' vs cs := ⟨h.1, fun i v x hv hx => ⟨hf x (List.mem_of_getElem? hx) R R' v (h.2 i v x hv hx).1, (h.2 i v x hv hx).2⟩⟩
theorem ok_flat {R R' : RHeap} {w : World} {o : Own} (h : Own.ok R w o) (hf : FlatO o) (hb : ∀ b, Own.blk o = some b → R' b = none) : Own.ok R' w o := by
  cases o with
  | box b t cs =>
    obtain ⟨h1, vs, h2, h3⟩ := h
    exact ⟨hb b rfl, vs, h2, denC_flat h3 hf⟩
  | arr v t sz es =>
    obtain ⟨h1, hl, xs, h2, h3⟩ := h
    exact ⟨fun b hb' => hb b hb', hl, xs, h2, denC_flat h3 fun c hc => by
      obtain ⟨e, he, hce⟩ := List.mem_flatten.1 hc
      exact hf e he c hce⟩
theorem sq_callGB {ops : Array Oper} {rs : List Oper} {env : List (Nat × AV)} {K : AState → Prop} {d : Nat} {f : FuncId} {args : Array Operand} {tys : Array TypeId} {ps : List Operand} {xs : List AV} {sel rest : List Own} (is : List Nat) (hg : o.guard = none) (ho : o.op = .call { callee := .value (.func f), args := args, argTypes := tys }) (hd : o.dst = some d) (hn : Nat.blt d n = true)
    (hc : ∀ (vs : Array Value) (w : World), (callFunc f vs).run P w = .ok (.enter f vs) w) (hps : args.toList = ps) (hs : GSpec P f xs sel ok O V) (hp : pick own is = (sel, rest)) (he : EvLB rest (getv · env) ps xs) (hso : ∀ q ∈ sel, FlatO q) (hfV : ∀ a, Flat (V a)) (hfO : ∀ a, ∀ q ∈ O a, FlatO q)
    (k : ∀ a, ok a → ASeq P G n ops rs ⟨O a ++ rest, (d, V a) :: env⟩ K) : ASeq P G n ops (o :: rs) ⟨own, env⟩ K :=
  opS_run hg fun w0 R0 R a w ⟨h1, h2, h3, h4⟩ => by
    have hcore := core_pick h1 hp
    have hcr := core_right hcore
    have hden := evlb_use (o := o) hcr (fun t _ y hy => h2 t y hy) he fun p hp => by simp [ho, Op.operands, Call.operands]; right; rw [← hps] at hp; exact Array.mem_toList_iff.1 hp
    have hrun : (execOp a.eval o).run P w = .ok (.enter f (ps.map a.eval).toArray) w := by
      have hargs : args.map a.eval = (ps.map a.eval).toArray := by rw [← hps]; cases args; simp
      simp only [execOp, ho, resolve, hargs, show a.eval (.func f) = .func (.func f) #[] #[] from rfl]
      simp [Deferred.ofValue, invoke, hc]
    unfold Oper.wp
    rw [hrun, Oper.upon_enter]
    have hlnone : ∀ q ∈ sel, ∀ b, Own.blk q = some b → lend rest w R b = none := fun q hq b hb => by
      unfold lend
      cases hob : ownB rest b with
      | true =>
        obtain ⟨x, hx, hxb⟩ := ownB_true hob
        exact absurd hxb (sep_apart hcore.sep hq hx hb)
      | false => exact (Own.ok_blk (hcore.owned q (List.mem_append_left _ hq)) hb).1
    refine (hs (lend rest w R) w _ (lend_le hcr) hden (fun q hq => ok_flat (hcore.owned q (List.mem_append_left _ hq)) (hso q hq) (hlnone q hq)) (core_left hcore).sep).mono fun e w' ⟨x, v, R', e0, e1, e2, e3⟩ => ?_
    subst e1
    have hR2 : ∀ b, b < w.heap.size → (fun b => bif ownB rest b then none else R' b) b = R b := fun b hb => by
      show (bif ownB rest b then none else R' b) = R b
      cases hob : ownB rest b with
      | true =>
        obtain ⟨y, hy, hyb⟩ := ownB_true hob
        rw [cond_true]; exact (Own.ok_blk (hcr.owned y hy) hyb).1.symm
      | false =>
        rw [cond_false, e3.rold b hb]
        unfold lend
        rw [hob, cond_false]
    have hnew : Core (blksOf sel) w R (O x) (fun b => bif ownB rest b then none else R' b) w' := by
      refine ⟨e3.os, e3.tape, e3.output, e3.size, e3.block, fun b y hy => ?_, hR2, fun q hq => ok_flat (e3.owned q hq) (hfO x q hq) fun b hb => ?_, e3.fresh, e3.sep⟩
      · cases hob : ownB rest b with
        | true => simp [hob] at hy
        | false => exact e3.rle b y (by simpa [hob] using hy)
      · show (bif ownB rest b then none else R' b) = none
        cases hob : ownB rest b with
        | true => rfl
        | false => rw [cond_false]; exact (Own.ok_blk (e3.owned q hq) hb).1
    have hR := rsub_of hcore.rle hnew.rold
    refine ⟨⟨O x ++ rest, (d, V x) :: env⟩, _, k x e0, hR, core_after hcore hnew, ?_, by rw [size_put]; exact h3, by rw [defers_put]; exact h4⟩
    rw [hd]
    exact env_put h2 hR (by rw [h3]; exact Nat.blt_eq.mp hn) (hfV x _ _ v e2)
/-- A contract that makes its result: read only. -/
theorem fspec_of_gspec {f : FuncId} {xs : List AV} {y : AV} (hs : GSpec P f xs [] ok O V) (h : ∀ a, ok a → LendTo (O a) (V a) y) : FSpec P f xs y := fun R w vs hr hd =>
  (hs R w vs hr hd (fun o ho => by simp at ho) (by simp)).mono fun e w' ⟨a, v, R', h0, h1, h2, h3⟩ => by
    refine ⟨v, lend (O a) w' R', h1, h a h0 _ _ _ R' w' v h3 h2, lend_le h3, fun b hb => ?_, ⟨h3.os, h3.tape, h3.output, h3.size, fun k hk => h3.block k hk fun ⟨o, ho, _⟩ => by simp at ho⟩⟩
    unfold lend
    cases hob : ownB (O a) b with
    | true =>
      obtain ⟨x, hx, hxb⟩ := ownB_true hob
      rcases h3.fresh x hx b hxb with h4 | ⟨o, ho, _⟩
      · omega
      · simp at ho
    | false => exact h3.rold b hb
end
/-! ### Slices held against nil -/
def AV.nilv (sz : Nat) : AV := ⟨fun R v => (AV.list sz []).den R v ∧ ∃ n c, v = .slice none n c, fun h ⟨k, l⟩ => ⟨(AV.list sz []).mono h k, l⟩⟩
def AV.nnl (sz : Nat) (es : List (List AV)) : AV := ⟨fun R v => (AV.list sz es).den R v ∧ ∃ a n c, v = .slice (some a) n c, fun h ⟨k, l⟩ => ⟨(AV.list sz es).mono h k, l⟩⟩
theorem nilv_list {sz : Nat} (R : RHeap) (v : Value) (h : (AV.nilv sz).den R v) : (AV.list sz []).den R v := h.1
theorem nnl_list {sz : Nat} {es : List (List AV)} (R : RHeap) (v : Value) (h : (AV.nnl sz es).den R v) : (AV.list sz es).den R v := h.1
theorem awp_nilcase {c : Code} {Q : Exit → AState → Prop} {env : List (Nat × AV)} {sz : Nat} {es : List (List AV)} (t : Nat) (h : getv t env = some (AV.list sz es)) (k1 : es = [] → AWP P G n c Q ⟨own, (t, AV.nilv sz) :: env⟩) (k2 : AWP P G n c Q ⟨own, (t, AV.nnl sz es) :: env⟩) : AWP P G n c Q ⟨own, env⟩ := fun w0 R0 R a w ⟨h1, h2, h3⟩ => by
  have hd := h2 t _ h
  obtain ⟨oa, cap, hv, q1, q2, q3, q4⟩ := hd
  have put : ∀ y : AV, y.den R (a.tmps.getD t undef) → EnvOk (getv · ((t, y) :: env)) R a := fun y hy k z hz => by
    simp only [getv] at hz
    by_cases hk : t = k
    · subst hk
      simp [Nat.beq_refl] at hz
      rw [← hz]; exact hy
    · rw [nat_beq_ne hk, cond_false] at hz
      exact h2 k z hz
  cases oa with
  | none =>
    have he : es = [] := by
      cases es with
      | nil => rfl
      | cons e es => obtain ⟨a, ha, _⟩ := q4 (by simp); cases ha
    subst he
    exact k1 rfl w0 R0 R a w ⟨h1, put _ ⟨⟨none, cap, hv, q1, q2, q3, q4⟩, _, _, hv⟩, h3⟩
  | some ad => exact k2 w0 R0 R a w ⟨h1, put _ ⟨⟨some ad, cap, hv, q1, q2, q3, q4⟩, _, _, _, hv⟩, h3⟩
theorem run_eql_nil {t e : TypeId} (w : World) (a : Option Addr) (l c : Nat) (h : P.underlying t = some (.slice e)) : (binOp .eql t (.slice a l c) (.slice none 0 0)).run P w = .ok (.bool a.isNone) w := by
  simp only [binOp]
  simp [run_equal_slice_nil w t e a l c h]
theorem w_eqnil {t e ty : TypeId} {p : Operand} {sz : Nat} (ho : o.op = .binOp .eql t p (.const (.slice none 0 0)) ty) (ht : P.underlying t = some (.slice e)) (hp : Ev E p (AV.nilv sz)) : OpW P G n own o E (AV.bool true) := opW_val fun R a w _ he => by
  obtain ⟨_, l, c, h1⟩ := ev_use hp (by simp [ho, Op.operands]) he
  exact ⟨.bool true, by simp only [execOp, ho, h1, show a.eval (.const (.slice none 0 0)) = .slice none 0 0 from rfl, eqGuard_at_slice, run_eql_nil w none l c ht, Sem.run_bind, Sem.run_pure, Result.andThen_ok, Option.isNone_none], rfl⟩
theorem w_eqnnl {t e ty : TypeId} {p : Operand} {sz : Nat} {es : List (List AV)} (ho : o.op = .binOp .eql t p (.const (.slice none 0 0)) ty) (ht : P.underlying t = some (.slice e)) (hp : Ev E p (AV.nnl sz es)) : OpW P G n own o E (AV.bool false) := opW_val fun R a w _ he => by
  obtain ⟨_, ad, l, c, h1⟩ := ev_use hp (by simp [ho, Op.operands]) he
  exact ⟨.bool false, by simp only [execOp, ho, h1, show a.eval (.const (.slice none 0 0)) = .slice none 0 0 from rfl, eqGuard_at_slice, run_eql_nil w (some ad) l c ht, Sem.run_bind, Sem.run_pure, Result.andThen_ok, Option.isNone_some], rfl⟩
/-! ### Parts of an own array -/
theorem grown_refl (w : World) (r : Option Nat) : w.grownBy w r := ⟨rfl, rfl, rfl, Nat.le_refl _, fun _ _ _ => rfl⟩
theorem sq_ahi {ops : Array Oper} {rs : List Oper} {env : List (Nat × AV)} {K : AState → Prop} {d : Nat} {t e : TypeId} {p q : Operand} {v : Value} {sz : Nat} {es : List (List AV)} {hi : Int} (i : Nat) (hg : o.guard = none) (ho : o.op = .slice t p none (some q) none) (hd : o.dst = some d) (hn : Nat.blt d n = true)
    (ht : P.underlying t = some (.slice e)) (hsz : ∀ w, (sizeOf e).run P w = .ok sz w) (hp : Ev (getv · env) p (AV.is v)) (hi' : own[i]? = some (.arr v e sz es)) (hq : Ev (getv · env) q (AV.int hi)) (h0 : 0 ≤ hi) (h1 : hi ≤ es.length)
    (k : ∀ v', ASeq P G n ops rs ⟨own.set i (.arr v' e sz (es.take hi.toNat)), (d, AV.is v') :: env⟩ K) : ASeq P G n ops (o :: rs) ⟨own, env⟩ K :=
  opS_run hg fun w0 R0 R a w ⟨h1', h2, h3, h4⟩ => by
    have e1 : a.eval p = v := ev_st (s := ⟨own, env⟩) (o := o) hp h2
    have e2 : a.eval q = .int .i64 hi := ev_st (s := ⟨own, env⟩) (o := o) hq h2
    obtain ⟨hR, hue, xs, hown, hdc⟩ := h1'.owned _ (List.mem_of_getElem? hi')
    have hel : P.elem t = e := by simp [Program.elem, ht]
    have hk : hi.toNat ≤ es.length := by omega
    have hlt : (es.take hi.toNat).length = hi.toNat := by simp; omega
    have hmul : hi.toNat * sz ≤ es.length * sz := Nat.mul_le_mul_right sz hk
    have hdt : DenC R (xs.take (hi.toNat * sz)) (es.take hi.toNat).flatten := by
      rw [flatten_take hi.toNat hue]
      exact ⟨by simp [hdc.1], fun j u x hu hx => by
        by_cases hj : j < hi.toNat * sz
        · rw [List.getElem?_take_of_lt hj] at hu hx
          exact hdc.2 j u x hu hx
        · rw [List.getElem?_eq_none (by simp; omega)] at hu; cases hu⟩
    have hut : ∀ x ∈ es.take hi.toNat, x.length = sz := fun x hx => hue x (List.mem_of_mem_take hx)
    have fin : ∀ v', (execOp a.eval o).run P w = .ok (.value v') w → Own.ok R w (.arr v' e sz (es.take hi.toNat)) → v'.ownBlock = v.ownBlock → o.wp P a w (fun a' w' => ∃ s' R', ASeq P G n ops rs s' K ∧ RSub R R' ∧ St G n w0 R0 s' R' a' w') (fun _ _ _ => False) := fun v' hr hok hb => by
      unfold Oper.wp
      rw [hr, Oper.upon_value, hd]
      exact ⟨_, R, k v', RSub.refl _, core_repl h1' hi' (fun b hb' => .inl (by simp only [Own.blk] at hb' ⊢; rw [← hb]; exact hb')) hok (grown_refl _ _), env_put h2 (RSub.refl _) (by rw [h3]; exact Nat.blt_eq.mp hn) rfl, by rw [size_put]; exact h3, by rw [defers_put]; exact h4⟩
    rcases hown.2 with ⟨rfl, hz⟩ | ⟨g, cap, cur, rfl, hb, hg', hnc, hmx, hcs, htake⟩
    · have hi0 : hi = 0 := by omega
      subst hi0
      have hr1 := run_slice_h (P := P) (w := w) (t := t) (a := none) (len := 0) (cap := 0) (by rw [hel]; exact ht) .i64 0 (by omega) (by omega)
      rw [hel, hsz, Result.andThen_ok] at hr1
      refine fin (.slice none 0 0) (by simp only [execOp, ho, e1, e2, Option.map_some, Option.map_none, run_sliceAt_slice w t _ _ _ _ (by rw [hel]; exact ht), hr1, Sem.run_bind, Sem.run_pure, Result.andThen_ok]; rfl) ⟨hR, hut, xs.take ((0 : Int).toNat * sz), ⟨by rw [hlt]; simp, .inl ⟨rfl, by rw [hlt]; rfl⟩⟩, hdt⟩ rfl
    · have hr1 := run_slice_h (P := P) (w := w) (t := t) (a := some ⟨g, 0, none⟩) (len := es.length) (cap := cap) (by rw [hel]; exact ht) .i64 hi h0 (by omega)
      rw [hel, hsz, Result.andThen_ok] at hr1
      have hv' : sliced (some ⟨g, 0, none⟩) 0 hi.toNat cap sz = .slice (some ⟨g, 0, none⟩) hi.toNat cap := by
        unfold sliced
        by_cases hc : cap = 0
        · simp [hc]
        · simp [hc, Addr.add]
      rw [hv'] at hr1
      refine fin (.slice (some ⟨g, 0, none⟩) hi.toNat cap) (by simp only [execOp, ho, e1, e2, Option.map_some, Option.map_none, run_sliceAt_slice w t _ _ _ _ (by rw [hel]; exact ht), hr1, Sem.run_bind, Sem.run_pure, Result.andThen_ok]) ⟨hR, hut, xs.take (hi.toNat * sz), ⟨?_, .inr ⟨g, cap, cur, by rw [hlt], hb, hg', by rw [hlt]; omega, hmx, hcs, ?_⟩⟩, hdt⟩ rfl
      · rw [hlt, List.length_take, hown.1]; omega
      · rw [hlt, ← htake, List.take_take, Nat.min_eq_left hmul]
def tailV (k sz : Nat) : Value → Value
  | .slice a n c => sliced a k n c sz
  | v => v
theorem w_alo {t e : TypeId} {p q : Operand} {v : Value} {sz : Nat} {es : List (List AV)} {lo : Int} (i : Nat) (ho : o.op = .slice t p (some q) none none) (ht : P.underlying t = some (.slice e)) (hsz : ∀ w, (sizeOf e).run P w = .ok sz w) (hp : Ev E p (AV.is v)) (hi' : own[i]? = some (.arr v e sz es)) (hq : Ev E q (AV.int lo)) (h0 : 0 ≤ lo) (h1 : lo ≤ es.length) :
    OpW P G n own o E (AV.is (tailV lo.toNat sz v)) := opW_core fun w0 R0 R a w hcore he => by
  have e1 : a.eval p = v := ev_use hp (by simp [ho, Op.operands]) he
  have e2 : a.eval q = .int .i64 lo := ev_use hq (by simp [ho, Op.operands]) he
  have hel : P.elem t = e := by simp [Program.elem, ht]
  obtain ⟨_, _, xs, hown, _⟩ := hcore.owned _ (List.mem_of_getElem? hi')
  obtain ⟨oa, c, rfl, hnc⟩ := own_form hown
  have hr1 := run_slice_l (P := P) (w := w) (t := t) (a := oa) (len := es.length) (cap := c) (by rw [hel]; exact ht) .i64 lo h0 (by omega)
  rw [hel, hsz, Result.andThen_ok] at hr1
  exact ⟨sliced oa lo.toNat es.length c sz, by simp only [execOp, ho, e1, e2, Option.map_some, Option.map_none, run_sliceAt_slice w t _ _ _ _ (by rw [hel]; exact ht), hr1, Sem.run_bind, Sem.run_pure, Result.andThen_ok], rfl⟩
theorem zeroCells_list (z : Value) (sz : Nat) (hz : z.cells.size = sz) (m : Nat) : ((Builtin.zeroCells z.cells m).toList).length = m * sz ∧ ∀ (j : Nat) (u : Value), (Builtin.zeroCells z.cells m).toList[j]? = some u → u = z.cells[j % sz]! := by
  unfold Builtin.zeroCells
  refine ⟨by simp [hz], fun j u hu => ?_⟩
  rw [Array.toList_map, List.getElem?_map, Array.toList_range] at hu
  by_cases hj : j < m * z.cells.size
  · rw [List.getElem?_range hj] at hu
    simp only [Option.map_some, Option.some.injEq] at hu
    rw [← hu, hz]
  · rw [List.getElem?_eq_none (by simp; omega)] at hu; cases hu
theorem sq_aclear {ops : Array Oper} {rs : List Oper} {env : List (Nat × AV)} {K : AState → Prop} {t e : TypeId} {p : Operand} {v z : Value} {sz k : Nat} {es : List (List AV)} (i : Nat) (hg : o.guard = none) (ho : o.op = .call { callee := .builtin .clear, args := #[p], argTypes := #[t] }) (hd : o.dst = none)
    (ht : P.underlying t = some (.slice e)) (hz : ∀ w, (zeroValue e).run P w = .ok z w) (hzs : z.cells.size = sz) (h1z : z.cells.toList.all Value.oneCell' = true) (hpos : 0 < sz) (hp : Ev (getv · env) p (AV.is (tailV k sz v))) (hi' : own[i]? = some (.arr v e sz es)) (hk : k ≤ es.length)
    (c : ASeq P G n ops rs ⟨own.set i (.arr v e sz (es.take k ++ List.replicate (es.length - k) (z.cells.toList.map zeroA))), env⟩ K) : ASeq P G n ops (o :: rs) ⟨own, env⟩ K :=
  opS_run hg fun w0 R0 R a w ⟨h1', h2, h3, h4⟩ => by
    have e1 : a.eval p = tailV k sz v := ev_st (s := ⟨own, env⟩) (o := o) hp h2
    obtain ⟨hR, hue, xs, hown, hdc⟩ := h1'.owned _ (List.mem_of_getElem? hi')
    have stay : (execOp a.eval o).run P w = .ok (.value (.tuple #[])) w → es.length = k → o.wp P a w (fun a' w' => ∃ s' R', ASeq P G n ops rs s' K ∧ RSub R R' ∧ St G n w0 R0 s' R' a' w') (fun _ _ _ => False) := fun hr hl => by
      have he : es.take k ++ List.replicate (es.length - k) (z.cells.toList.map zeroA) = es := by rw [hl, Nat.sub_self, ← hl, List.take_length]; simp
      rw [he] at c
      have hset : own.set i (.arr v e sz es) = own := by
        obtain ⟨hlt, heq⟩ := List.getElem?_eq_some_iff.1 hi'
        rw [← heq]; exact List.set_getElem_self hlt
      rw [hset] at c
      unfold Oper.wp
      rw [hr, Oper.upon_value, hd]
      exact ⟨_, R, c, RSub.refl _, h1', h2, h3, h4⟩
    rcases hown.2 with ⟨rfl, hz0⟩ | ⟨g, cap, cur, rfl, hb, hg', hnc, hmx, hcs, htake⟩
    · refine stay ?_ (by omega)
      simp only [execOp, ho, resolve, invoke, builtin, List.map_toArray, List.map_cons, List.map_nil, e1, tailV, sliced, Sem.run_bind, Sem.run_pure, Result.andThen_ok]
      simp [Builtin.clear_, run_underlying ht]
    · by_cases hkl : k = es.length
      · refine stay ?_ hkl.symm
        subst hkl
        simp only [execOp, ho, resolve, invoke, builtin, List.map_toArray, List.map_cons, List.map_nil, e1, tailV, sliced, Nat.sub_self, Sem.run_bind, Sem.run_pure, Result.andThen_ok]
        by_cases hc : cap = es.length <;> simp [Builtin.clear_, run_underlying ht, hc]
      · have hkc : cap ≠ k := by omega
        obtain ⟨m, hm⟩ : ∃ m, es.length - k = m + 1 := ⟨es.length - k - 1, by omega⟩
        have hlz := zeroCells_list z sz hzs (m + 1)
        have hone : ∀ u ∈ (Builtin.zeroCells z.cells (m + 1)).toList, u.oneCell' = true := fun u hu => by
          obtain ⟨j, hj⟩ := List.getElem?_of_mem hu
          rw [hlz.2 j u hj, getElem!_pos z.cells _ (by rw [hzs]; exact Nat.mod_lt _ hpos)]
          exact List.all_eq_true.1 h1z _ (by simp)
        have hmul : k * sz + (m + 1) * sz = es.length * sz := by rw [← Nat.add_mul]; congr 1; omega
        have hmc : es.length * sz ≤ cap * sz := Nat.mul_le_mul_right sz hnc
        have hst := run_storeCells_at (P := P) g (k * sz) e (Builtin.zeroCells z.cells (m + 1)).toList 0 cur w hg' (by rw [hlz.1, hcs]; omega) hone
        simp only [Nat.add_zero, hlz.1] at hst
        have htv : tailV k sz (.slice (some ⟨g, 0, none⟩) es.length cap) = .slice (some ⟨g, k * sz, none⟩) (m + 1) (cap - k) := by
          simp only [tailV, sliced, hm, if_neg hkc, Option.map_some, addr_add, Nat.zero_add]
        have hrun : (execOp a.eval o).run P w = .ok (.value (.tuple #[])) (w.setRow g (cur.toList.take (k * sz) ++ (Builtin.zeroCells z.cells (m + 1)).toList ++ cur.toList.drop (k * sz + (m + 1) * sz)).toArray) := by
          simp only [execOp, ho, resolve, invoke, builtin, List.map_toArray, List.map_cons, List.map_nil, e1, htv, Sem.run_bind, Sem.run_pure, Result.andThen_ok]
          simp [Builtin.clear_, run_underlying ht, hz, hst]
        have hxl : xs.length = es.length * sz := hown.1
        have hzd : DenC R (Builtin.zeroCells z.cells (m + 1)).toList (List.replicate (m + 1) (z.cells.toList.map zeroA)).flatten := by
          have hu : ∀ e ∈ List.replicate (m + 1) (z.cells.toList.map zeroA), e.length = sz := fun e he => by rw [(List.mem_replicate.1 he).2]; simp [hzs]
          refine ⟨by rw [hlz.1, flatten_len hu]; simp, fun j u x hu' hx => ?_⟩
          have hjl : j < (m + 1) * sz := by rw [← hlz.1]; exact (List.getElem?_eq_some_iff.1 hu').1
          have hjm : j % sz < sz := Nat.mod_lt _ hpos
          have hjd : j / sz < m + 1 := Nat.div_lt_of_lt_mul (by rw [Nat.mul_comm]; exact hjl)
          have hjj : j / sz * sz + j % sz = j := by rw [Nat.mul_comm]; exact Nat.div_add_mod j sz
          have hzj : z.cells.toList[j % sz]? = some (z.cells.toList[j % sz]'(by simp [hzs]; exact hjm)) := List.getElem?_eq_getElem _
          have hx2 := flatten_get hu (i := j / sz) (e := z.cells.toList.map zeroA) (by rw [List.getElem?_replicate, if_pos hjd]) (k := j % sz) (x := zeroA (z.cells.toList[j % sz]'(by simp [hzs]; exact hjm))) (by rw [List.getElem?_map, hzj]; rfl)
          rw [hjj, hx] at hx2
          injection hx2 with hx2
          have hu2 : u = z.cells.toList[j % sz]'(by simp [hzs]; exact hjm) := by
            rw [hlz.2 j u hu', getElem!_pos z.cells _ (by rw [hzs]; exact hjm)]; simp
          rw [hx2, hu2]
          exact ⟨zeroA_den R _, List.all_eq_true.1 h1z _ (by simp)⟩
        unfold Oper.wp
        rw [hrun, Oper.upon_value, hd]
        have hln : (es.take k ++ List.replicate (es.length - k) (z.cells.toList.map zeroA)).length = es.length := by simp; omega
        refine ⟨_, R, c, RSub.refl _, core_set h1' hi' rfl rfl ⟨hR, fun q hq => ?_, xs.take (k * sz) ++ (Builtin.zeroCells z.cells (m + 1)).toList, ⟨?_, .inr ⟨g, cap, _, by rw [hln], hb, setRow_heap w g _ _ e _ hg', by rw [hln]; exact hnc, hmx, ?_, ?_⟩⟩, ?_⟩ (setRow_grown w g _), h2, h3, h4⟩
        · rcases List.mem_append.1 hq with h | h
          · exact hue q (List.mem_of_mem_take h)
          · rw [(List.mem_replicate.1 h).2]; simp [hzs]
        · rw [hln]; simp only [List.length_append, List.length_take, hlz.1, hxl]; omega
        · simp only [List.size_toArray, List.length_append, List.length_take, List.length_drop, hlz.1, Array.length_toList, hcs]; omega
        · rw [hln]
          have hl2 : (cur.toList.take (k * sz) ++ (Builtin.zeroCells z.cells (m + 1)).toList).length = es.length * sz := by simp only [List.length_append, List.length_take, hlz.1, Array.length_toList, hcs]; omega
          show List.take (es.length * sz) (cur.toList.take (k * sz) ++ (Builtin.zeroCells z.cells (m + 1)).toList ++ cur.toList.drop (k * sz + (m + 1) * sz)) = _
          rw [← hl2, List.take_left', ← htake, List.take_take, Nat.min_eq_left (by omega)]
          rfl
        · rw [List.flatten_append, hm, flatten_take k hue]
          refine denC_append' ⟨by simp [hdc.1], fun j u x hu hx => ?_⟩ hzd
          by_cases hj : j < k * sz
          · rw [List.getElem?_take_of_lt hj] at hu hx
            exact hdc.2 j u x hu hx
          · rw [List.getElem?_eq_none (by simp; omega)] at hu; cases hu
theorem flatO_nil : ∀ q ∈ ([] : List Own), FlatO q := fun q h => by simp at h
theorem flatO_cons {o : Own} {os : List Own} (h : FlatO o) (k : ∀ q ∈ os, FlatO q) : ∀ q ∈ o :: os, FlatO q := fun q hq => by
  rcases List.mem_cons.1 hq with rfl | hq
  · exact h
  · exact k q hq
theorem flat_arr {α : Type} {f : α → List AV} {l : List α} {v : Value} {t : TypeId} {sz : Nat} (h : ∀ x, ∀ c ∈ f x, Flat c) : FlatO (.arr v t sz (l.map f)) := fun e he c hc => by
  obtain ⟨x, _, rfl⟩ := List.mem_map.1 he
  exact h x c hc
theorem flat_one {α : Type} {f : α → AV} (h : ∀ x, Flat (f x)) : ∀ x, ∀ c ∈ [f x], Flat c := fun x c hc => by
  rw [List.mem_singleton] at hc; subst hc; exact h x
theorem flatl_nil : ∀ c ∈ ([] : List AV), Flat c := fun c h => by simp at h
theorem flatl_cons {x : AV} {xs : List AV} (h : Flat x) (k : ∀ c ∈ xs, Flat c) : ∀ c ∈ x :: xs, Flat c := fun c hc => by
  rcases List.mem_cons.1 hc with rfl | hc
  · exact h
  · exact k c hc
end
end Go.AV
