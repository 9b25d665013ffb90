/- Rules for drawn inputs: sealing beside what a call has taken over. -/
import Derived.Test.YtinakggafbidcaaAvN
set_option linter.unusedVariables false
set_option linter.unusedSimpArgs false
namespace Go.AV
section
variable {P : Program} {G : Nat → Prop} {n : Nat} {own : List Own} {o : Oper}
theorem gin_false {rest : List Own} : ∀ b, (fun _ : Nat => False) b → b ∈ rest.filterMap Own.blk := fun _ h => h.elim
theorem gin_nil {rest : List Own} : ∀ b, blksOf [] b → b ∈ rest.filterMap Own.blk := fun _ ⟨_, h, _⟩ => by simp at h
theorem gin_cons {q q' : Own} {ow rest : List Own} (i : Nat) (h : rest[i]? = some q') (hb : Own.blk q = Own.blk q') (k : ∀ b, blksOf ow b → b ∈ rest.filterMap Own.blk) : ∀ b, blksOf (q :: ow) b → b ∈ rest.filterMap Own.blk := fun b ⟨x, hx, hxb⟩ => by
  rcases List.mem_cons.1 hx with rfl | hx
  · exact List.mem_filterMap.2 ⟨q', List.mem_of_getElem? h, hb ▸ hxb⟩
  · exact k b ⟨x, hx, hxb⟩
/-- Some of what is owned is sealed; what the call took over is not. -/
theorem core_sealD {sel rest : List Own} {w0 : World} {R0 R : RHeap} {w : World} (h : Core G w0 R0 (sel ++ rest) R w) (hG : ∀ b, G b → b ∈ rest.filterMap Own.blk) : Core G w0 R0 rest (lend sel w R) w := by
  have hl := core_left h
  refine ⟨h.os, h.tape, h.output, h.size, h.block, lend_le hl, fun b hb => ?_, fun q hq => ?_, fun q hq => h.fresh q (List.mem_append_right _ hq), (core_right h).sep⟩
  · unfold lend
    cases hob : ownB sel b with
    | true =>
      obtain ⟨x, hx, hxb⟩ := ownB_true hob
      rcases h.fresh x (List.mem_append_left _ hx) b hxb with h1 | h1
      · omega
      · obtain ⟨y, hy, hyb⟩ := List.mem_filterMap.1 (hG b h1)
        exact absurd hyb (sep_apart h.sep hx hy hxb)
    | false => exact h.rold b hb
  · have hk := h.owned q (List.mem_append_right _ hq)
    refine Own.ok_keep hk (lend_sub hl) fun b hb => ⟨rfl, ?_⟩
    unfold lend
    cases hob : ownB sel b with
    | true =>
      obtain ⟨x, hx, hxb⟩ := ownB_true hob
      exact absurd hb (sep_apart h.sep hx hq hxb)
    | false => exact (Own.ok_blk hk hb).1
theorem le_sealD {env : List (Nat × AV)} {sel rest : List Own} {x y : AV} (is : List Nat) (t : Nat) (hp : pick own is = (sel, rest)) (ht : getv t env = some x) (hl : LendTo sel x y) (hG : ∀ b, G b → b ∈ rest.filterMap Own.blk) : Le G n ⟨own, env⟩ ⟨rest, (t, y) :: env⟩ := fun w0 R0 R a w ⟨h1, h2, h3⟩ => by
  have hc := core_pick h1 hp
  refine ⟨lend sel w R, lend_sub (core_left hc), core_sealD hc hG, fun k z hz => ?_, h3⟩
  simp only [getv] at hz
  by_cases hk : t = k
  · subst hk
    simp [Nat.beq_refl] at hz
    rw [← hz]
    exact hl G w0 R0 R w _ (core_left hc) (h2 t x ht)
  · rw [nat_beq_ne hk, cond_false] at hz
    exact z.mono (lend_sub (core_left hc)) (h2 k z hz)
/-- An operation with a guard: the cases. -/
theorem sq_gcase {ops : Array Oper} {rest : List Oper} {env : List (Nat × AV)} {K : AState → Prop} {d : Nat} {c : Bool} (hd : o.dst = some d) (hn : Nat.blt d n = true) (hg : GuardIs ops o (getv · env) c)
    (ht : c = true → ASeq P G n ops ({ o with guard := none } :: rest) ⟨own, env⟩ K) (hf : c = false → ASeq P G n ops rest ⟨own, (d, AV.is undef) :: env⟩ K) : ASeq P G n ops (o :: rest) ⟨own, env⟩ K := fun w0 R0 R a w hs => by
  have hgc := hg R a fun t _ y hy => hs.2.1 t y hy
  cases c with
  | true =>
    refine ⟨fun _ => ?_, fun hw => by rw [hgc] at hw; exact Bool.noConfusion hw⟩
    exact (ht rfl w0 R0 R a w hs).1 rfl
  | false =>
    refine ⟨fun hw => by rw [hgc] at hw; exact Bool.noConfusion hw, fun _ => ⟨_, R, hf rfl, RSub.refl _, ?_⟩⟩
    obtain ⟨h1, h2, h3, h4⟩ := hs
    refine ⟨h1, ?_, by rw [size_put]; exact h3, by rw [defers_put]; exact h4⟩
    have := envOk_put (d := o.dst) (x := AV.is undef) (v := undef) h2 (RSub.refl R) (fun q e => by rw [h3]; rw [hd] at e; injection e with e; subst e; exact Nat.blt_eq.mp hn) rfl
    rw [hd] at this ⊢
    exact this
theorem evif_no {E : EnvF} {p : Operand} {b : Bool} {x : AV} (h : b = false) : EvIf E p b x := fun hb => by rw [h] at hb; cases hb
theorem evb_cloL {E : EnvF} {p : Operand} {f : FuncId} {xs ys : List AV} (h : Ev E p (AV.clo f xs)) (hl : LendC own xs ys) : EvB own E p (AV.clo f ys) := fun G w0 R0 R a w hc he => by
  obtain ⟨vs, h1, h2⟩ := h R a he
  refine ⟨vs, h1, h2.1.trans hl.1, fun i v y hv hy => ?_⟩
  have hi : i < xs.length := by rw [hl.1]; exact (List.getElem?_eq_some_iff.1 hy).1
  have hx := List.getElem?_eq_getElem hi
  exact hl.2 i _ y hx hy G w0 R0 R w v hc (h2.2 i v _ hv hx)
theorem w_nilE {E : EnvF} {p : Operand} {xs : List AV} (ho : o.op = .nilCheck p) (hp : Ev E p (AV.eptr xs)) : OpW P G n own o E (AV.eptr xs) := opW_val fun R a w hr he => by
  obtain ⟨ad, h1, h2⟩ := ev_use hp (by simp [ho, Op.operands]) he
  exact ⟨_, by simp only [execOp, ho, h1, Sem.run_pure], ad, rfl, h2⟩
theorem w_fldX2 {E : EnvF} {t e : TypeId} {p : Operand} {fs : Array Field} {fd : Field} {f m k off : Nat} {v : Value} {sz : Nat} {es : List (List AV)} {ys : List AV} (i q : Nat) (ho : o.op = .fieldAddr t p f) (ht : P.underlying t = some (.struct fs)) (hk : fs[f]? = some fd) (hs : ∀ w, (sizeOf fd.type).run P w = .ok (m + 1) w)
    (hp : Ev E p (AV.is (elemPtr v (k * sz + off)))) (hi : own[i]? = some (.arr v e sz es)) (hoff : Nat.blt off sz = true) (hy : es[k]? = some ys) (hq : off + fd.offset = q) : OpW P G n own o E (AV.is (elemPtr v (k * sz + q))) := opW_core fun w0 R0 R a w hc he => by
  have e1 : a.eval p = _ := ev_use hp (by simp [ho, Op.operands]) he
  have hok := hc.owned _ (List.mem_of_getElem? hi)
  have hu := hok.2.1
  have hyl : ys.length = sz := hu ys (List.mem_of_getElem? hy)
  have hb1 := Nat.blt_eq.mp hoff
  obtain ⟨g, u0, h1, _⟩ := own_cells hok (flatten_get hu hy (List.getElem?_eq_getElem (show off < ys.length by omega)))
  rw [h1] at e1
  subst hq
  refine ⟨_, ?_, show elemPtr v (k * sz + (off + fd.offset)) = _ from rfl⟩
  rw [← Nat.add_assoc, elemPtr_add h1]
  simp only [execOp, ho, e1, Instr.fieldAt, run_underlying ht, hk, Instr.sureAddr, fieldPlace, hs, Sem.run_bind, Sem.run_pure, Result.andThen_ok, Sem.run_ite, Nat.add_eq_zero_iff, Nat.succ_ne_self, Nat.one_ne_zero, and_false, if_false]
end
end Go.AV
