/- Rules for drawn inputs: sealing beside what a call has taken over. -/
import Derived.Test.YteliahajeokciaaAvN
set_option linter.unusedVariables false
set_option linter.unusedSimpArgs false
namespace Go.AV
section
variable {P : Program} {G : Nat → Prop} {n : Nat} {own : List Own} {o : Oper}
theorem gin_false {rest : List Own} : ∀ b, (fun _ : Nat => False) b → b ∈ rest.filterMap Own.blk := fun _ h => h.elim
theorem gin_nil {rest : List Own} : ∀ b, blksOf [] b → b ∈ rest.filterMap Own.blk := fun _ ⟨_, h, _⟩ => by simp at h
theorem gin_cons {q q' : Own} {ow rest : List Own} (i : Nat) (h : rest[i]? = some q') (hb : Own.blk q = Own.blk q') (k : ∀ b, blksOf ow b → b ∈ rest.filterMap Own.blk) : ∀ b, blksOf (q :: ow) b → b ∈ rest.filterMap Own.blk := fun b ⟨x, hx, hxb⟩ => by
  rcases List.mem_cons.1 hx with rfl | hx
  · exact List.mem_filterMap.2 ⟨q', List.mem_of_getElem? h, hb ▸ hxb⟩
  · exact k b ⟨x, hx, hxb⟩
/-- Some of what is owned is sealed; what the call took over is not. -/
theorem core_sealD {sel rest : List Own} {w0 : World} {R0 R : RHeap} {w : World} (h : Core G w0 R0 (sel ++ rest) R w) (hG : ∀ b, G b → b ∈ rest.filterMap Own.blk) : Core G w0 R0 rest (lend sel w R) w := by
  have hl := core_left h
  refine ⟨h.os, h.tape, h.output, h.size, h.block, lend_le hl, fun b hb => ?_, fun q hq => ?_, fun q hq => h.fresh q (List.mem_append_right _ hq), (core_right h).sep⟩
  · unfold lend
    cases hob : ownB sel b with
    | true =>
      obtain ⟨x, hx, hxb⟩ := ownB_true hob
      rcases h.fresh x (List.mem_append_left _ hx) b hxb with h1 | h1
      · omega
      · obtain ⟨y, hy, hyb⟩ := List.mem_filterMap.1 (hG b h1)
        exact absurd hyb (sep_apart h.sep hx hy hxb)
    | false => exact h.rold b hb
  · have hk := h.owned q (List.mem_append_right _ hq)
    refine Own.ok_keep hk (lend_sub hl) fun b hb => ⟨rfl, ?_⟩
    unfold lend
    cases hob : ownB sel b with
    | true =>
      obtain ⟨x, hx, hxb⟩ := ownB_true hob
      exact absurd hb (sep_apart h.sep hx hq hxb)
    | false => exact (Own.ok_blk hk hb).1
theorem le_sealD {env : List (Nat × AV)} {sel rest : List Own} {x y : AV} (is : List Nat) (t : Nat) (hp : pick own is = (sel, rest)) (ht : getv t env = some x) (hl : LendTo sel x y) (hG : ∀ b, G b → b ∈ rest.filterMap Own.blk) : Le G n ⟨own, env⟩ ⟨rest, (t, y) :: env⟩ := fun w0 R0 R a w ⟨h1, h2, h3⟩ => by
  have hc := core_pick h1 hp
  refine ⟨lend sel w R, lend_sub (core_left hc), core_sealD hc hG, fun k z hz => ?_, h3⟩
  simp only [getv] at hz
  by_cases hk : t = k
  · subst hk
    simp [Nat.beq_refl] at hz
    rw [← hz]
    exact hl G w0 R0 R w _ (core_left hc) (h2 t x ht)
  · rw [nat_beq_ne hk, cond_false] at hz
    exact z.mono (lend_sub (core_left hc)) (h2 k z hz)
/-- An operation with a guard: the cases. -/
theorem sq_gcase {ops : Array Oper} {rest : List Oper} {env : List (Nat × AV)} {K : AState → Prop} {d : Nat} {c : Bool} (hd : o.dst = some d) (hn : Nat.blt d n = true) (hg : GuardIs ops o (getv · env) c)
    (ht : c = true → ASeq P G n ops ({ o with guard := none } :: rest) ⟨own, env⟩ K) (hf : c = false → ASeq P G n ops rest ⟨own, (d, AV.is undef) :: env⟩ K) : ASeq P G n ops (o :: rest) ⟨own, env⟩ K := fun w0 R0 R a w hs => by
  have hgc := hg R a fun t _ y hy => hs.2.1 t y hy
  cases c with
  | true =>
    refine ⟨fun _ => ?_, fun hw => by rw [hgc] at hw; exact Bool.noConfusion hw⟩
    exact (ht rfl w0 R0 R a w hs).1 rfl
  | false =>
    refine ⟨fun hw => by rw [hgc] at hw; exact Bool.noConfusion hw, fun _ => ⟨_, R, hf rfl, RSub.refl _, ?_⟩⟩
    obtain ⟨h1, h2, h3, h4⟩ := hs
    refine ⟨h1, ?_, by rw [size_put]; exact h3, by rw [defers_put]; exact h4⟩
    have := envOk_put (d := o.dst) (x := AV.is undef) (v := undef) h2 (RSub.refl R) (fun q e => by rw [h3]; rw [hd] at e; injection e with e; subst e; exact Nat.blt_eq.mp hn) rfl
    rw [hd] at this ⊢
    exact this
theorem evif_no {E : EnvF} {p : Operand} {b : Bool} {x : AV} (h : b = false) : EvIf E p b x := fun hb => by rw [h] at hb; cases hb
theorem evb_cloL {E : EnvF} {p : Operand} {f : FuncId} {xs ys : List AV} (h : Ev E p (AV.clo f xs)) (hl : LendC own xs ys) : EvB own E p (AV.clo f ys) := fun G w0 R0 R a w hc he => by
  obtain ⟨vs, h1, h2⟩ := h R a he
  refine ⟨vs, h1, h2.1.trans hl.1, fun i v y hv hy => ?_⟩
  have hi : i < xs.length := by rw [hl.1]; exact (List.getElem?_eq_some_iff.1 hy).1
  have hx := List.getElem?_eq_getElem hi
  exact hl.2 i _ y hx hy G w0 R0 R w v hc (h2.2 i v _ hv hx)
theorem w_nilE {E : EnvF} {p : Operand} {xs : List AV} (ho : o.op = .nilCheck p) (hp : Ev E p (AV.eptr xs)) : OpW P G n own o E (AV.eptr xs) := opW_val fun R a w hr he => by
  obtain ⟨ad, h1, h2⟩ := ev_use hp (by simp [ho, Op.operands]) he
  exact ⟨_, by simp only [execOp, ho, h1, Sem.run_pure], ad, rfl, h2⟩
theorem w_fldX2 {E : EnvF} {t e : TypeId} {p : Operand} {fs : Array Field} {fd : Field} {f m k off : Nat} {v : Value} {sz : Nat} {es : List (List AV)} {ys : List AV} (i q : Nat) (ho : o.op = .fieldAddr t p f) (ht : P.underlying t = some (.struct fs)) (hk : fs[f]? = some fd) (hs : ∀ w, (sizeOf fd.type).run P w = .ok (m + 1) w)
    (hp : Ev E p (AV.is (elemPtr v (k * sz + off)))) (hi : own[i]? = some (.arr v e sz es)) (hoff : Nat.blt off sz = true) (hy : es[k]? = some ys) (hq : off + fd.offset = q) : OpW P G n own o E (AV.is (elemPtr v (k * sz + q))) := opW_core fun w0 R0 R a w hc he => by
  have e1 : a.eval p = _ := ev_use hp (by simp [ho, Op.operands]) he
  have hok := hc.owned _ (List.mem_of_getElem? hi)
  have hu := hok.2.1
  have hyl : ys.length = sz := hu ys (List.mem_of_getElem? hy)
  have hb1 := Nat.blt_eq.mp hoff
  obtain ⟨g, u0, h1, _⟩ := own_cells hok (flatten_get hu hy (List.getElem?_eq_getElem (show off < ys.length by omega)))
  rw [h1] at e1
  subst hq
  refine ⟨_, ?_, show elemPtr v (k * sz + (off + fd.offset)) = _ from rfl⟩
  rw [← Nat.add_assoc, elemPtr_add h1]
  simp only [execOp, ho, e1, Instr.fieldAt, run_underlying ht, hk, Instr.sureAddr, fieldPlace, hs, Sem.run_bind, Sem.run_pure, Result.andThen_ok, Sem.run_ite, Nat.add_eq_zero_iff, Nat.succ_ne_self, Nat.one_ne_zero, and_false, if_false]
/-- Bits of a number, where only their bounds matter. -/
def bandI (x y : Int) : Int := IntKind.u64.wrap (((BitVec.ofInt IntKind.u64.bits x &&& BitVec.ofInt IntKind.u64.bits y).toNat : Nat) : Int)
theorem w_band {E : EnvF} {t ty : TypeId} {p q : Operand} {x y : Int} (ho : o.op = .binOp .and t p q ty) (hp : Ev E p (AV.ik .u64 x)) (hq : Ev E q (AV.ik .u64 y)) : OpW P G n own o E (AV.ik .u64 (bandI x y)) := opW_val fun R a w _ he => by
  have h1 : a.eval p = .int .u64 x := ev_use hp (by simp [ho, Op.operands]) he
  have h2 : a.eval q = .int .u64 y := ev_use hq (by simp [ho, Op.operands]) he
  exact ⟨.int .u64 (bandI x y), by simp only [execOp, ho, h1, h2]; simp [go_sem]; rfl, rfl⟩
theorem agg_any {xs : List AV} (R : RHeap) (v : Value) (h : (AV.agg xs).den R v) : (AV.agg (List.replicate xs.length AV.any)).den R v := by
  obtain ⟨vs, e, hl, hd⟩ := h
  refine ⟨vs, e, by rw [hl, List.length_replicate], fun i u x hu hx => ?_⟩
  have hi : i < xs.length := by have := (List.getElem?_eq_some_iff.1 hx).1; simpa using this
  obtain ⟨_, h2⟩ := hd i u _ hu (List.getElem?_eq_getElem hi)
  rw [List.getElem?_replicate, if_pos hi] at hx
  injection hx with hx
  subst hx
  exact ⟨trivial, h2⟩
theorem wpAnyB_first0 {Inv : List Own → Prop} {md : Region.Mode} {ops : Array Oper} {m i : Nat} {oi : Oper} {x : AV} {L : Array Bool → EnvF → List Own → Prop} (hi : ops[i]? = some oi)
    (hm0 : m = ops.size) (hin : i < m)
    (hdone : ∀ listed E W, L listed E W → ∀ j ∈ Region.ready md ops listed, m ≤ j) :
    ∀ (f : Nat) (listed : Array Bool) (E : EnvF) (W : List Own), HeadInv md ops m listed → Inv W →
      (∀ j oj, ops[j]? = some oj → j ≠ i → listed.getD j true = false → (∀ e ∈ oj.after, Region.binds md e = true → e.on ≠ i) → oi.apart ops oj = true) →
      i ∈ Region.ready md ops listed → (∀ W, Inv W → OpA P G n W ops oi E x) →
      wpAnyB P G n Inv md ops m L f (listed.setIfInBounds i true) (updF oi.dst x E) W → wpAnyB P G n Inv md ops m L (f + 1) listed E W := by
  have put : ∀ {K : EnvF → List Own → Prop} {E : EnvF} {W : List Own}, Inv W → (∀ W, Inv W → OpA P G n W ops oi E x) → K (updF oi.dst x E) W → qB P G n Inv ops i K E W := fun hW hy hK => by
    unfold qB
    simp only [hi]
    exact .inl ⟨x, hy _ hW, hK⟩
  intro f
  induction f with
  | zero =>
    intro listed E W inv hW _ hr hy H
    have hun := (mem_ready.1 hr).1
    refine ⟨fun h => (by rw [h] at hr; cases hr), fun j hj => ?_⟩
    have hjn : j < m := by
      rcases Nat.lt_or_ge j m with h | h
      · exact h
      · obtain ⟨_, oj, hoj, _⟩ := mem_ready.1 hj
        have := (Array.getElem?_eq_some_iff.1 hoj).1
        omega
    refine ⟨hjn, ?_⟩
    by_cases hji : j = i
    · subst hji; exact put hW hy H
    · have := hdone _ _ _ H j (ready_mono hj hji)
      omega
  | succ f ih =>
    intro listed E W inv hW hfree hr hy H
    have hun := (mem_ready.1 hr).1
    refine ⟨fun h => (by rw [h] at hr; cases hr), fun j hj => ?_⟩
    have hjn : j < m := by
      rcases Nat.lt_or_ge j m with h | h
      · exact h
      · obtain ⟨_, oj, hoj, _⟩ := mem_ready.1 hj
        have := (Array.getElem?_eq_some_iff.1 hoj).1
        omega
    refine ⟨hjn, ?_⟩
    by_cases hji : j = i
    · subst hji; exact put hW hy H
    · have h1 := (H.2 j (ready_mono hj hji)).2
      obtain ⟨hjun, oj, hoj, hall⟩ := mem_ready.1 hj
      have hnot : ∀ e ∈ oj.after, Region.binds md e = true → e.on ≠ i := fun e he hb heq => by
        have h1 := hall e he hb
        rw [heq, getD_both hun] at h1
        cases h1
      have h2 := qB_put hoj (hfree j oj hoj hji hjun hnot) hW hy h1
      have hfree' : ∀ k ok, ops[k]? = some ok → k ≠ i → (listed.setIfInBounds j true).getD k true = false →
          (∀ e ∈ ok.after, Region.binds md e = true → e.on ≠ i) → oi.apart ops ok = true := fun k ok hk hki hun hno => by
        refine hfree k ok hk hki ?_ hno
        by_cases hjk : j = k
        · subst hjk; exact hjun
        · rw [getD_set_ne true hjk] at hun; exact hun
      refine qB_mono hW (fun E' W' hW' h3 => ih (listed.setIfInBounds j true) E' W' (inv.set hj hjn) hW' hfree' (ready_mono hr (Ne.symm hji)) h3.1 ?_) h2
      rw [Array.setIfInBounds_comm _ _ hji]
      exact h3.2
def treeZ (md : Region.Mode) (ops : Array Oper) (m : Nat) (ord : OT) : Bool :=
  decide (m = ops.size) && ord.deep m && ordT md ops (ops.size - m) m ord (Array.replicate ops.size false)
theorem wpAnyB_ot0 {Inv : List Own → Prop} {md : Region.Mode} {ops : Array Oper} {m g : Nat} {K : List (Nat × AV) → List Own → Prop} (hm0 : m = ops.size) :
    ∀ (l : OT) (f : Nat) (listed : Array Bool) (env : List (Nat × AV)) (W : List Own), l.deep f = true → HeadInv md ops m listed → Inv W →
    ordT md ops g m l listed = true → BT P G n Inv ops l env W K →
    wpAnyB P G n Inv md ops m (fun listed' E W => Region.seqB md ops g m listed' = true ∧ ∃ env', E = (getv · env') ∧ K env' W) f listed (getv · env) W
  | .nil, 0, listed, env, W, _, _, _, hB, h => ⟨hB, env, rfl, h⟩
  | .nil, _ + 1, _, _, _, hdp, _, _, _, _ => by cases hdp
  | .pure _ _, 0, _, _, _, hdp, _, _, _, _ => by cases hdp
  | .e1 _ _, 0, _, _, _, hdp, _, _, _, _ => by cases hdp
  | .e2 _ _ _ _, 0, _, _, _, hdp, _, _, _, _ => by cases hdp
  | .pure i l, f + 1, listed, env, W, hdp, inv, hW, hB, h => by
    simp only [ordT, Bool.and_eq_true] at hB
    obtain ⟨⟨⟨hr, hf⟩, hlt⟩, hB'⟩ := hB
    have hkn : i < m := Nat.blt_eq.mp hlt
    have hr' : i ∈ Region.ready md ops listed := by simpa using hr
    obtain ⟨o, ho, x, hx, hK⟩ := h
    refine wpAnyB_first0 ho hm0 hkn (fun listed' E W hL => seqB_ready hL.1) f listed _ W inv hW (Region.free_spec ho hf) hr' hx ?_
    rw [← getv_putv]
    exact wpAnyB_ot0 hm0 l f _ _ W hdp (inv.set hr' hkn) hW hB' hK
  | .e1 i l, f + 1, listed, env, W, hdp, inv, hW, hB, h => by
    simp only [ordT, Bool.and_eq_true, decide_eq_true_eq] at hB
    obtain ⟨⟨hr, hlt⟩, hB'⟩ := hB
    have hkn : i < m := Nat.blt_eq.mp hlt
    have hr' : i ∈ Region.ready md ops listed := by rw [hr]; simp
    obtain ⟨o, ho, hg, α, ok, W', V, h1, h2, h3⟩ := h
    refine ⟨fun h0 => (by rw [h0] at hr'; cases hr'), fun j hj => ?_⟩
    rw [hr] at hj
    have : j = i := by simpa using hj
    subst this
    refine ⟨hkn, ?_⟩
    unfold qB
    simp only [ho]
    refine .inr ⟨hg, α, ok, W', V, h1, h2, fun a ha => ?_⟩
    rw [← getv_putv]
    exact wpAnyB_ot0 hm0 l f _ _ (W' a) hdp (inv.set hr' hkn) (h2 a ha) hB' (h3 a ha)
  | .e2 i l k u, f + 1, listed, env, W, hdp, inv, hW, hB, h => by
    simp only [ordT, Bool.and_eq_true, decide_eq_true_eq] at hB
    obtain ⟨⟨⟨⟨hr, hlt⟩, hlt2⟩, hB'⟩, hB2⟩ := hB
    simp only [OT.deep, Bool.and_eq_true] at hdp
    have hkn : i < m := Nat.blt_eq.mp hlt
    have hkn2 : k < m := Nat.blt_eq.mp hlt2
    have hr' : i ∈ Region.ready md ops listed := by rw [hr]; simp
    have hr2 : k ∈ Region.ready md ops listed := by rw [hr]; simp
    obtain ⟨⟨o, ho, hg, α, ok, W', V, h1, h2, h3⟩, ⟨o', ho', hg', α', ok', W'', V', h1', h2', h3'⟩⟩ := h
    refine ⟨fun h0 => (by rw [h0] at hr'; cases hr'), fun j hj => ?_⟩
    rw [hr] at hj
    simp only [List.mem_cons, List.not_mem_nil, or_false] at hj
    rcases hj with hj | hj
    · subst hj
      refine ⟨hkn, ?_⟩
      unfold qB
      simp only [ho]
      refine .inr ⟨hg, α, ok, W', V, h1, h2, fun a ha => ?_⟩
      rw [← getv_putv]
      exact wpAnyB_ot0 hm0 l f _ _ (W' a) hdp.1 (inv.set hr' hkn) (h2 a ha) hB' (h3 a ha)
    · subst hj
      refine ⟨hkn2, ?_⟩
      unfold qB
      simp only [ho']
      refine .inr ⟨hg', α', ok', W'', V', h1', h2', fun a ha => ?_⟩
      rw [← getv_putv]
      exact wpAnyB_ot0 hm0 u f _ _ (W'' a) hdp.2 (inv.set hr2 hkn2) (h2' a ha) hB2 (h3' a ha)
theorem awp_region_tree0 {id : Nat} {l : List Oper} {Q : Exit → AState → Prop} {env : List (Nat × AV)} {own : List Own} (base : List Own) (m : Nat) (ord : OT) (hm : P.follows .mixedOrders = true) (hB : treeZ .any l.toArray m ord = true) (hd : dstOk n l = true) (hb : InvX base own)
    (h : BT P G n (InvX base) l.toArray ord env own (fun env' W => ASeq P G n l.toArray (l.drop m) ⟨W, env'⟩ (Q .normal))) : AWP P G n (.region id l.toArray true) Q ⟨own, env⟩ := fun w0 R0 R a w ⟨h1, h2, h3, h4⟩ => by
  simp only [treeZ, Bool.and_eq_true, decide_eq_true_eq] at hB
  obtain ⟨⟨hm0, hdp⟩, hlex⟩ := hB
  have hn' : m = l.length := by simpa using hm0
  have hdl : (l.drop m).length = l.toArray.size - m := by simp
  have inv0 : HeadInv .any l.toArray m (Array.replicate l.toArray.size false) :=
    ⟨by simp, fun j oj _ hl => (by rw [getD_replicate_false] at hl; cases hl), fun t _ ht => getD_in (by simpa using ht) (getD_replicate_false _ _)⟩
  have H := wpAnyB_ot0 (g := l.toArray.size - m) hm0 ord m _ env own hdp inv0 hb hlex h
  refine wp_region_any hm ?_
  have := wpAny_of_B (w0 := w0) (R0 := R0) (R00 := R) (g := l.toArray.size - m) (Q' := fun e a' w' => ∃ s' R', Q e s' ∧ RSub R R' ∧ St G n w0 R0 s' R' a' w') (fun i o ho d e => dstOk_spec hd i o (by simpa using ho) d e) (fun listed E W R' a' w' g1 g2 g3 g4 g5 hL => by
    obtain ⟨hL1, env', rfl, hL2⟩ := hL
    have := wpAny_of_seq (P := P) (md := .any) (Q' := fun e a' w' => ∃ s' R', Q e s' ∧ RSub R R' ∧ St G n w0 R0 s' R' a' w') (l.drop m) m listed a' w' (fun j => by simp [List.getElem?_drop]) (by rw [hdl]; exact hL1)
      (wpList_of_seq (R00 := R) (K := Q .normal) (fun s' R' a w q r1 r2 => ⟨s', R', q, r1, r2⟩) _ (⟨W, env'⟩ : AState) R' a' w' g1 ⟨g2, g3, g4, g5⟩ hL2)
    rwa [hdl] at this) _ _ _ own R a _ (RSub.refl _) (core_drew h1) h2 h3 h4 H
  rw [show m + (l.toArray.size - m) = l.toArray.size by omega] at this
  exact this
theorem opE_pure {ops : Array Oper} {E : EnvF} {x : AV} (h : OpW P G n own o E x) : OpE P G n own ops o E (fun _ : Unit => True) (fun _ => own) (fun _ => x) :=
  fun w0 R0 R a w h1 h2 h3 => Oper.wp_mono2 (fun a' w' ⟨v, R', e1, e2, e3, e4⟩ => ⟨(), v, R', trivial, e1, e2, e3, e4⟩) (fun _ _ _ h => h) (h w0 R0 R a w h1 h2 fun t ht => h3 t (looks_tmps ht))
end
end Go.AV
