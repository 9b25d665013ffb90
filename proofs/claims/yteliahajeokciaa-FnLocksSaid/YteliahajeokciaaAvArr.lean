/- Rules: arrays that the call makes: make, append, load, seal; slices of lists and strings. -/
import Derived.Test.YteliahajeokciaaAvMore
import Derived.Maps.AppendAt
set_option linter.unusedVariables false
set_option linter.unusedSimpArgs false
namespace Go.AV
open Go.RowKit (Below)
section
variable {P : Program} {G : Nat → Prop} {n : Nat} {own : List Own} {o : Oper} {E : EnvF}

theorem nodup_set {own : List Own} {i : Nat} {x y : Own} {N : Nat} (hi : own[i]? = some x) (h : (own.filterMap Own.blk).Nodup) (hlt : ∀ o ∈ own, ∀ b, Own.blk o = some b → b < N) (hy : ∀ b, Own.blk y = some b → Own.blk x = some b ∨ b = N) : ((own.set i y).filterMap Own.blk).Nodup := by
  induction own generalizing i with
  | nil => simp at hi
  | cons o own ih =>
    rw [List.filterMap_cons] at h
    have hlt' : ∀ o ∈ own, ∀ b, Own.blk o = some b → b < N := fun q hq => hlt q (by simp [hq])
    have htail : (own.filterMap Own.blk).Nodup := by
      cases hb : Own.blk o with
      | none => rw [hb] at h; exact h
      | some k => rw [hb] at h; exact (List.nodup_cons.1 h).2
    cases i with
    | zero =>
      simp at hi; subst hi
      simp only [List.set_cons_zero, List.filterMap_cons]
      cases hb : Own.blk y with
      | none => exact htail
      | some k =>
        refine List.nodup_cons.2 ⟨fun hm => ?_, htail⟩
        obtain ⟨q, hq, hqb⟩ := List.mem_filterMap.1 hm
        rcases hy k hb with h1 | h1
        · rw [h1] at h
          exact (List.nodup_cons.1 h).1 hm
        · have := hlt' q hq k hqb
          omega
    | succ i =>
      have hi' : own[i]? = some x := by simpa using hi
      simp only [List.set_cons_succ, List.filterMap_cons]
      have := ih hi' htail hlt'
      cases hb : Own.blk o with
      | none => exact this
      | some k =>
        rw [hb] at h
        refine List.nodup_cons.2 ⟨fun hm => ?_, this⟩
        obtain ⟨q, hq, hqb⟩ := List.mem_filterMap.1 hm
        rcases List.mem_or_eq_of_mem_set hq with h1 | h1
        · exact (List.nodup_cons.1 h).1 (List.mem_filterMap.2 ⟨q, h1, hqb⟩)
        · subst h1
          rcases hy k hqb with h2 | h2
          · exact (List.nodup_cons.1 h).1 (List.mem_filterMap.2 ⟨x, List.mem_of_getElem? hi', h2⟩)
          · have := hlt o (by simp) k hb
            omega
/-- One owned thing turns, in its own block or in a new one. -/
theorem core_repl {w0 : World} {R0 R : RHeap} {w w' : World} {i : Nat} {x y : Own} (h : Core G w0 R0 own R w) (hi : own[i]? = some x) (hy : ∀ b, Own.blk y = some b → Own.blk x = some b ∨ b = w.heap.size) (hok : Own.ok R w' y)
    (hg : w.grownBy w' (Own.blk x)) : Core G w0 R0 (own.set i y) R w' := by
  have hxm := List.mem_of_getElem? hi
  refine ⟨hg.os.trans h.os, hg.tape.trans h.tape, hg.output.trans h.output, Nat.le_trans h.size hg.size, fun k hk1 hk2 => ?_, fun b ob e => ?_, h.rold, fun q hq => ?_, fun q hq b hb => ?_, ?_⟩
  · rw [hg.block k (Nat.lt_of_lt_of_le hk1 h.size) (fun e => ?_)]
    · exact h.block k hk1 hk2
    · rcases h.fresh x hxm k e.symm with h1 | h1
      · omega
      · exact hk2 h1
  · have := h.rle b ob e
    rw [hg.block b (Array.getElem?_eq_some_iff.1 this).1 (fun e' => by rw [(Own.ok_blk (h.owned x hxm) e'.symm).1] at e; cases e)]
    exact this
  · obtain ⟨j, hj⟩ := List.getElem?_of_mem hq
    by_cases hij : i = j
    · subst hij
      rw [List.getElem?_set_self (List.getElem?_eq_some_iff.1 hi).1] at hj
      injection hj with hj; subst hj; exact hok
    · rw [List.getElem?_set_ne hij] at hj
      have hom := List.mem_of_getElem? hj
      refine Own.ok_keep (h.owned q hom) (RSub.refl _) fun b hb => ?_
      obtain ⟨k1, k2⟩ := Own.ok_blk (h.owned q hom) hb
      exact ⟨hg.block b k2 (fun e => sep_get h.sep hi hj hij e.symm hb), k1⟩
  · rcases List.mem_or_eq_of_mem_set hq with h1 | h1
    · exact h.fresh q h1 b hb
    · subst h1
      rcases hy b hb with h2 | h2
      · exact h.fresh x hxm b h2
      · exact .inl (by rw [h2]; exact h.size)
  · exact nodup_set hi h.sep (fun q hq b hb => (Own.ok_blk (h.owned q hq) hb).2) hy
theorem denC_append' {R : RHeap} {vs us : List Value} {xs ys : List AV} (h : DenC R vs xs) (k : DenC R us ys) : DenC R (vs ++ us) (xs ++ ys) :=
  ⟨by simp [h.1, k.1], fun i v x hv hx => by
    by_cases hi : i < vs.length
    · rw [List.getElem?_append_left hi] at hv
      rw [List.getElem?_append_left (by rw [← h.1]; exact hi)] at hx
      exact h.2 i v x hv hx
    · rw [List.getElem?_append_right (by omega)] at hv
      rw [List.getElem?_append_right (by rw [← h.1]; omega), ← h.1] at hx
      exact k.2 _ v x hv hx⟩
/-- The cells of a sealed list, as values. -/
theorem list_cells {R : RHeap} {w : World} {sz : Nat} {es : List (List AV)} {a : Addr} (hr : RLe R w) (h : CellsAt R a es.flatten) : ∃ vs : List Value, vs.length = es.flatten.length ∧ (∀ (j : Nat) (u : Value), vs[j]? = some u → w.cell? (a.add j) = some u) ∧ DenC R vs es.flatten := by
  have key : ∀ m, m ≤ es.flatten.length → ∃ vs : List Value, vs.length = m ∧ ∀ (j : Nat) (u : Value), vs[j]? = some u → w.cell? (a.add j) = some u ∧ ∀ x, es.flatten[j]? = some x → x.den R u ∧ u.oneCell' = true := by
    intro m
    induction m with
    | zero => exact fun _ => ⟨[], rfl, fun j u h => by simp at h⟩
    | succ m ih =>
      intro hm
      obtain ⟨vs, h1, h2⟩ := ih (by omega)
      obtain ⟨u, h3, h4, h5⟩ := h m _ (List.getElem?_eq_getElem (by omega))
      refine ⟨vs ++ [u], by simp [h1], fun j v hv => ?_⟩
      by_cases hj : j < vs.length
      · rw [List.getElem?_append_left hj] at hv; exact h2 j v hv
      · have hjm : j = m := by
          have := (List.getElem?_eq_some_iff.1 hv).1
          simp at this; omega
        subst hjm
        rw [List.getElem?_append_right (by omega), h1] at hv
        simp at hv; subst hv
        refine ⟨rcell_cell hr h3, fun x hx => ?_⟩
        rw [List.getElem?_eq_getElem (by omega)] at hx
        injection hx with hx; subst hx; exact ⟨h4, h5⟩
  obtain ⟨vs, h1, h2⟩ := key _ (Nat.le_refl _)
  exact ⟨vs, h1, fun j u hu => (h2 j u hu).1, h1, fun i v x hv hx => (h2 i v hv).2 x hx⟩
/-- append onto an array of the call's own. -/
theorem sq_append {ops : Array Oper} {rest : List Oper} {env : List (Nat × AV)} {K : AState → Prop} {t e : TypeId} {p q : Operand} {d sz by' : Nat} {inf : TypeInfo} {z : Value} {v : Value} {es fs : List (List AV)} (i : Nat) (hg : o.guard = none) (ho : o.op = .call { callee := .builtin .append, args := #[p, q], argTypes := #[t, t] }) (hd : o.dst = some d) (hn : Nat.blt d n = true)
    (ht : P.underlying t = some (.slice e)) (hinf : P.info? e = some inf) (hz : inf.zero = some z) (hsz : inf.size = sz) (hby : inf.bytes = by') (hzs : z.cells.size = sz) (hpos : Nat.ble 1 sz = true) (hpos2 : Nat.ble 1 by' = true) (hp : Ev (getv · env) p (AV.is v)) (hq : Ev (getv · env) q (AV.list sz fs)) (hi : own[i]? = some (.arr v e sz es))
    (hlen : (es.length + fs.length) * by' ≤ 140737488355328) (k : ∀ v', ASeq P G n ops rest ⟨own.set i (.arr v' e sz (es ++ fs)), (d, AV.is v') :: env⟩ K) : ASeq P G n ops (o :: rest) ⟨own, env⟩ K :=
  opS_run hg fun w0 R0 R a w ⟨h1, h2, h3, h4⟩ => by
    have e1 : a.eval p = v := ev_st (s := ⟨own, env⟩) (o := o) hp h2
    obtain ⟨oa, c, e2, hc1, hc2, hu, hcell⟩ := ev_st (s := ⟨own, env⟩) (o := o) hq h2
    obtain ⟨hR, hue, xs, hown, hdc⟩ := h1.owned _ (List.mem_of_getElem? hi)
    have hb1 := Nat.le_of_ble_eq_true hpos
    have hb2 := Nat.le_of_ble_eq_true hpos2
    have hsum : es.length + fs.length ≤ 140737488355328 := Nat.le_trans (Nat.le_mul_of_pos_right _ hb2) hlen
    have hufs : ∀ x ∈ es ++ fs, x.length = sz := fun x hx => by
      rcases List.mem_append.1 hx with h | h
      · exact hue x h
      · exact hu x h
    by_cases hfs : fs = []
    · subst hfs
      have hrun : ∃ v', (Builtin.append_ #[t, t] o.type #[v, a.eval q]).run P w = .ok v' w ∧ v' = v := by
        refine ⟨v, ?_, rfl⟩
        rw [e2]
        rcases hown.2 with ⟨rfl, hz0⟩ | ⟨g, cap, cur, rfl, _, _, hnc, _⟩
        · cases oa with
          | none => simp [Builtin.append_, run_underlying ht, sizeOf, typeInfo, hinf, Builtin.lenOf, Builtin.firstCells, hz0]
          | some ad => simp [Builtin.append_, run_underlying ht, sizeOf, typeInfo, hinf, Builtin.lenOf, Builtin.firstCells, loadCells, loadCellsFrom, hz0]
        · cases oa with
          | none => simp [Builtin.append_, run_underlying ht, sizeOf, typeInfo, hinf, Builtin.lenOf, Builtin.firstCells, hnc, storeCells]
          | some ad => simp [Builtin.append_, run_underlying ht, sizeOf, typeInfo, hinf, Builtin.lenOf, Builtin.firstCells, loadCells, loadCellsFrom, hnc, storeCells]
      obtain ⟨v', hr, rfl⟩ := hrun
      have hex : (execOp a.eval o).run P w = .ok (.value v') w := by
        simp only [execOp, ho, resolve, invoke, builtin, Sem.run_bind, Sem.run_pure, Result.andThen_ok, List.map_toArray, List.map_cons, List.map_nil, e1, hr]
      unfold Oper.wp
      rw [hex, Oper.upon_value, hd]
      have hset : own.set i (.arr v' e sz (es ++ [])) = own := by
        rw [List.append_nil]
        obtain ⟨hlt, he⟩ := List.getElem?_eq_some_iff.1 hi
        rw [← he]; exact List.set_getElem_self hlt
      have hk := k v'
      rw [hset] at hk
      exact ⟨_, R, hk, RSub.refl _, h1, env_put h2 (RSub.refl _) (by rw [h3]; exact Nat.blt_eq.mp hn) rfl, by rw [size_put]; exact h3, by rw [defers_put]; exact h4⟩
    · obtain ⟨ad, rfl, hca⟩ := hcell hfs
      obtain ⟨ns, hn1, hn2, hn3⟩ := list_cells (sz := sz) h1.rle hca
      have hnl : ns.length = fs.length * sz := by rw [hn1, flatten_len hu]
      have hone : ∀ u ∈ ns, u.oneCell' = true := fun u hm => by
        obtain ⟨j, hj⟩ := List.getElem?_of_mem hm
        have hjl : j < fs.flatten.length := by rw [← hn1]; exact (List.getElem?_eq_some_iff.1 hj).1
        exact (hn3.2 j u _ hj (List.getElem?_eq_getElem hjl)).2
      obtain ⟨v', w', hr, hown', hgr, _, hblk⟩ := run_append_own_at (P := P) w 0 t o.type e inf z sz by' ht hinf hz hsz hby hzs hb1 v es.length xs hown ad fs.length c ns hnl hn2 hone (by unfold maxLen; omega) hlen (Nat.zero_le _)
      have hex : (execOp a.eval o).run P w = .ok (.value v') w' := by
        simp only [execOp, ho, resolve, invoke, builtin, Sem.run_bind, Sem.run_pure, Result.andThen_ok, List.map_toArray, List.map_cons, List.map_nil, e1, e2, hr]
      unfold Oper.wp
      rw [hex, Oper.upon_value, hd]
      refine ⟨_, R, k v', RSub.refl _, core_repl h1 hi (fun b hb => ?_) ⟨fun b hb => ?_, hufs, xs ++ ns, ?_, ?_⟩ hgr, env_put h2 (RSub.refl _) (by rw [h3]; exact Nat.blt_eq.mp hn) rfl, by rw [size_put]; exact h3, by rw [defers_put]; exact h4⟩
      · simp only [Own.blk] at hb ⊢
        rcases hblk with h | h
        · exact .inl (by rw [← h]; exact hb)
        · rw [hb] at h; injection h with h; exact .inr h
      · rcases hblk with h | h
        · exact hR b (by rw [← h]; exact hb)
        · rw [hb] at h; injection h with h; subst h; exact rle_none h1.rle
      · rw [List.length_append]; exact hown'
      · rw [List.flatten_append]; exact denC_append' hdc hn3

/-! ### Sealing -/
theorem core_erase_seal {w0 : World} {R0 R : RHeap} {w : World} {i : Nat} {x : Own} {g : Nat} {ob : Obj} (h : Core G w0 R0 own R w) (hi : own[i]? = some x) (hx : Own.blk x = some g) (hw : w.heap[g]? = some ob) (hnG : w0.heap.size ≤ g) : Core G w0 R0 (own.eraseIdx i) (sealB R g ob) w := by
  have hxm := List.mem_of_getElem? hi
  have hgR := (Own.ok_blk (h.owned x hxm) hx).1
  have hil : i < own.length := (List.getElem?_eq_some_iff.1 hi).1
  refine ⟨h.os, h.tape, h.output, h.size, h.block, fun b o e => ?_, fun b hb => ?_, fun q hq => ?_, fun q hq => ?_, ?_⟩
  · by_cases hb : b = g
    · subst hb; rw [sealB_self] at e; rw [← e]; exact hw
    · rw [sealB_other hb] at e; exact h.rle b o e
  · rw [sealB_other (by omega)]; exact h.rold b hb
  · obtain ⟨j, hj⟩ := List.getElem?_of_mem hq
    rw [List.getElem?_eraseIdx] at hj
    have : ∃ j', own[j']? = some q ∧ i ≠ j' := by
      split at hj
      · exact ⟨j, hj, by omega⟩
      · exact ⟨j + 1, hj, by omega⟩
    obtain ⟨j', hj', hne⟩ := this
    have hom := List.mem_of_getElem? hj'
    refine Own.ok_keep (h.owned q hom) (sealB_sub hgR) fun b hb => ⟨rfl, ?_⟩
    have hbg : b ≠ g := fun e => sep_get h.sep hi hj' hne hx (by rw [hb, e])
    rw [sealB_other hbg]; exact (Own.ok_blk (h.owned q hom) hb).1
  · exact h.fresh q (List.mem_of_mem_eraseIdx hq)
  · exact ((List.eraseIdx_sublist own i).filterMap _).nodup h.sep
/-- An array of the call's own becomes a list that is only read. -/
theorem le_seal {env : List (Nat × AV)} {v : Value} {e : TypeId} {sz : Nat} {es : List (List AV)} (i t : Nat) (hi : own[i]? = some (.arr v e sz es)) (ht : getv t env = some (AV.is v)) (hG : ∀ b, ¬ G b) : Le G n ⟨own, env⟩ ⟨own.eraseIdx i, (t, AV.list sz es) :: env⟩ := fun w0 R0 R a w ⟨h1, h2, h3⟩ => by
  have hm := List.mem_of_getElem? hi
  obtain ⟨hR, hu, xs, hown, hd⟩ := h1.owned _ hm
  have hv : a.tmps.getD t undef = v := h2 t _ ht
  have henv : ∀ R', RSub R R' → (AV.list sz es).den R' v → EnvOk (getv · ((t, AV.list sz es) :: env)) R' a := fun R' hr hl k x hx => by
    simp only [getv] at hx
    by_cases hk : t = k
    · subst hk
      simp [Nat.beq_refl] at hx
      rw [← hx, hv]; exact hl
    · rw [nat_beq_ne hk, cond_false] at hx
      exact x.mono hr (h2 k x hx)
  rcases hown.2 with ⟨rfl, hz⟩ | ⟨g, cap, cur, rfl, _, hg, hn, hmx, hcs, htake⟩
  · have : es = [] := List.eq_nil_of_length_eq_zero hz
    subst this
    refine ⟨R, RSub.refl _, ?_, henv R (RSub.refl _) ⟨none, 0, rfl, Nat.le_refl _, Nat.zero_le _, by simp, fun h => absurd rfl h⟩, h3⟩
    exact core_sub h1 (List.eraseIdx_sublist own i)
  · have hgw : w0.heap.size ≤ g := (h1.fresh _ hm g rfl).resolve_right (hG g)
    have hgR := hR g rfl
    refine ⟨sealB R g (.cells cur e (0, 0)), sealB_sub hgR, core_erase_seal h1 hi rfl hg hgw, henv _ (sealB_sub hgR) ?_, h3⟩
    refine ⟨_, cap, rfl, hn, hmx, hu, fun _ => ⟨_, rfl, fun j x hx => ?_⟩⟩
    have hj : j < xs.length := by rw [hd.1]; exact (List.getElem?_eq_some_iff.1 hx).1
    have hvj : xs[j]? = some xs[j] := List.getElem?_eq_getElem hj
    have ha : ((⟨g, 0, none⟩ : Addr).add j) = ⟨g, j, none⟩ := by unfold Addr.add; split <;> simp_all
    have hcur : cur[j]? = some xs[j] := by
      have hq : xs[j]? = cur.toList[j]? := by rw [← htake, List.getElem?_take_of_lt (by rw [← hown.1]; exact hj)]
      rw [← Array.getElem?_toList, ← hq, hvj]
    exact ⟨xs[j], by rw [ha]; simp [rcell, sealB_self, hcur], x.mono (sealB_sub hgR) (hd.2 j _ x hvj hx).1, (hd.2 j _ x hvj hx).2⟩
theorem no_G : ∀ b : Nat, ¬ (fun _ : Nat => False) b := fun _ h => h
theorem awp_seal {c : Code} {Q : Exit → AState → Prop} {env : List (Nat × AV)} {v : Value} {e : TypeId} {sz : Nat} {es : List (List AV)} (i t : Nat) (hi : own[i]? = some (.arr v e sz es)) (ht : getv t env = some (AV.is v)) (k : AWP P (fun _ => False) n c Q ⟨own.eraseIdx i, (t, AV.list sz es) :: env⟩) : AWP P (fun _ => False) n c Q ⟨own, env⟩ :=
  AWP.le (le_seal i t hi ht no_G) k
theorem ret_seal {fn : Func} {y : AV} {env : List (Nat × AV)} {v : Value} {e : TypeId} {sz : Nat} {es : List (List AV)} (i t : Nat) (hi : own[i]? = some (.arr v e sz es)) (ht : getv t env = some (AV.is v)) (k : RetOk P (fun _ => False) n fn ⟨own.eraseIdx i, (t, AV.list sz es) :: env⟩ y) : RetOk P (fun _ => False) n fn ⟨own, env⟩ y := fun w0 R0 R a w hs => by
  obtain ⟨R1, h1, h2⟩ := le_seal i t hi ht no_G w0 R0 R a w hs
  obtain ⟨v, R2, h3, h4, h5, h6⟩ := k w0 R0 R1 a w h2
  exact ⟨v, R2, h3, h4, h1.trans h5, h6⟩
theorem sq_le {ops : Array Oper} {rest : List Oper} {s s' : AState} {K : AState → Prop} (h : Le G n s s') (k : ASeq P G n ops (o :: rest) s' K) : ASeq P G n ops (o :: rest) s K := fun w0 R0 R a w hs => by
  obtain ⟨R1, h1, h2⟩ := h w0 R0 R a w hs
  obtain ⟨k1, k2⟩ := k w0 R0 R1 a w h2
  exact ⟨fun hw => Oper.wp_mono2 (fun a' w' ⟨s2, R2, e1, e2, e3⟩ => ⟨s2, R2, e1, h1.trans e2, e3⟩) (fun _ _ _ h => h) (k1 hw), fun hw => let ⟨s2, R2, e1, e2, e3⟩ := k2 hw; ⟨s2, R2, e1, h1.trans e2, e3⟩⟩
theorem sq_seal {ops : Array Oper} {rest : List Oper} {K : AState → Prop} {env : List (Nat × AV)} {v : Value} {e : TypeId} {sz : Nat} {es : List (List AV)} (i t : Nat) (hi : own[i]? = some (.arr v e sz es)) (ht : getv t env = some (AV.is v)) (k : ASeq P (fun _ => False) n ops (o :: rest) ⟨own.eraseIdx i, (t, AV.list sz es) :: env⟩ K) : ASeq P (fun _ => False) n ops (o :: rest) ⟨own, env⟩ K :=
  sq_le (le_seal i t hi ht no_G) k

/-! ### make -/
theorem core_arr_new {w0 : World} {R0 R : RHeap} {w : World} {cur : Array Value} {e : TypeId} {sz m cap : Nat} {es : List (List AV)} (h : Core G w0 R0 own R w) (hm : es.length = m) (hmc : m ≤ cap) (hcm : cap ≤ maxLen) (hcs : cur.size = cap * sz) (hu : ∀ x ∈ es, x.length = sz) (hd : DenC R (cur.toList.take (m * sz)) es.flatten) :
    Core G w0 R0 (.arr (.slice (some ⟨w.heap.size, 0, none⟩) m cap) e sz es :: own) R (w.alloc (.cells cur e)) where
  os := h.os
  tape := h.tape
  output := h.output
  size := by simp; exact Nat.le_succ_of_le h.size
  block k hk1 hk2 := (Below.heap_alloc w _ k (Nat.lt_of_lt_of_le hk1 h.size)).trans (h.block k hk1 hk2)
  rle b o e := by
    have := h.rle b o e
    exact (Below.heap_alloc w _ b (Array.getElem?_eq_some_iff.1 this).1).trans this
  rold := h.rold
  owned o ho := by
    rcases List.mem_cons.1 ho with rfl | ho
    · refine ⟨fun b hb => ?_, hu, cur.toList.take (m * sz), ⟨?_, .inr ⟨w.heap.size, cap, cur, by rw [hm], Nat.zero_le _, heap_alloc_new w _, by rw [hm]; exact hmc, hcm, hcs, by rw [hm]⟩⟩, hd⟩
      · simp [Value.ownBlock] at hb; subst hb; exact rle_none h.rle
      · rw [hm]
        have := Nat.mul_le_mul_right sz hmc
        rw [List.length_take, Array.length_toList, hcs]; omega
    · exact Own.ok_keep (h.owned o ho) (RSub.refl _) fun b hb => by
        obtain ⟨k1, k2⟩ := Own.ok_blk (h.owned o ho) hb
        exact ⟨Below.heap_alloc w _ b k2, k1⟩
  fresh o ho b hb := by
    rcases List.mem_cons.1 ho with rfl | ho
    · simp [Own.blk, Value.ownBlock] at hb; subst hb; exact .inl h.size
    · exact h.fresh o ho b hb
  sep := by
    simp only [List.filterMap_cons, Own.blk, Value.ownBlock]
    refine List.nodup_cons.2 ⟨fun hm => ?_, h.sep⟩
    obtain ⟨o, ho, hb⟩ := List.mem_filterMap.1 hm
    have := (Own.ok_blk (h.owned o ho) hb).2
    omega
theorem sq_make {ops : Array Oper} {rest : List Oper} {env : List (Nat × AV)} {K : AState → Prop} {t e : TypeId} {p q : Operand} {d sz by' m : Nat} {inf : TypeInfo} {z : Value} (hg : o.guard = none) (ho : o.op = .makeSlice t p q) (hd : o.dst = some d) (hn : Nat.blt d n = true)
    (ht : P.underlying t = some (.slice e)) (hinf : P.info? e = some inf) (hz : inf.zero = some z) (hsz : inf.size = sz) (hby : inf.bytes = by') (hzs : z.cells.size = sz) (hpos : Nat.ble 1 sz = true) (h1' : z.cells.toList.all Value.oneCell' = true) (hp : Ev (getv · env) p (AV.int m)) (hq : Ev (getv · env) q (AV.int m))
    (hlen : m * by' ≤ 281474976710656) (hlen2 : m ≤ 281474976710656) (k : ∀ v', ASeq P G n ops rest ⟨.arr v' e sz (List.replicate m (z.cells.toList.map zeroA)) :: own, (d, AV.is v') :: env⟩ K) : ASeq P G n ops (o :: rest) ⟨own, env⟩ K :=
  opS_run hg fun w0 R0 R a w ⟨h1, h2, h3, h4⟩ => by
    have e1 : a.eval p = .int .i64 m := ev_st (s := ⟨own, env⟩) (o := o) hp h2
    have e2 : a.eval q = .int .i64 m := ev_st (s := ⟨own, env⟩) (o := o) hq h2
    have hb1 := Nat.le_of_ble_eq_true hpos
    have hr := run_make (P := P) w t e inf z ht hinf hz .i64 .i64 (m : Int) (m : Int) (by omega) (by omega) (by rw [hby]; have h9 : ((m * by' : Nat) : Int) ≤ 281474976710656 := by omega
                                                                                                                rw [Int.natCast_mul] at h9; rw [Int.mul_comm]; exact h9) (by omega)
    simp only [Int.toNat_natCast] at hr
    have hex : (execOp a.eval o).run P w = .ok (.value (.slice (some ⟨w.heap.size, 0, none⟩) m m)) (w.alloc (.cells (madeCells z.cells (m * inf.size)) e)) := by
      simp only [execOp, ho, e1, e2, hr, Sem.run_bind, Sem.run_pure, Result.andThen_ok]
    unfold Oper.wp
    rw [hex, Oper.upon_value, hd]
    have hms : (madeCells z.cells (m * inf.size)).size = m * sz := by rw [size_madeCells, hsz]
    refine ⟨_, R, k _, RSub.refl _, core_arr_new h1 (by simp) (Nat.le_refl _) (by unfold maxLen; omega) hms (fun x hx => ?_) ⟨?_, fun j v x hv hx => ?_⟩, env_put h2 (RSub.refl _) (by rw [h3]; exact Nat.blt_eq.mp hn) rfl, by rw [size_put]; exact h3, by rw [defers_put]; exact h4⟩
    · rw [(List.mem_replicate.1 hx).2]; simp [hzs]
    · rw [flatten_len (sz := sz) (fun x hx => by rw [(List.mem_replicate.1 hx).2]; simp [hzs])]
      simp [hms]
    · have hj : j < m * sz := by
        have := (List.getElem?_eq_some_iff.1 hx).1
        rw [flatten_len (sz := sz) (fun x hx => by rw [(List.mem_replicate.1 hx).2]; simp [hzs])] at this
        simpa using this
      have hjm : j % sz < sz := Nat.mod_lt _ (by omega)
      have hjj : j / sz * sz + j % sz = j := by rw [Nat.mul_comm]; exact Nat.div_add_mod j sz
      have hjd : j / sz < m := Nat.div_lt_of_lt_mul (by rw [Nat.mul_comm]; exact hj)
      have hzj : z.cells.toList[j % sz]? = some (z.cells.toList[j % sz]'(by simp [hzs]; exact hjm)) := List.getElem?_eq_getElem _
      have hx2 := flatten_get (sz := sz) (es := List.replicate m (z.cells.toList.map zeroA)) (fun x hx => by rw [(List.mem_replicate.1 hx).2]; simp [hzs]) (i := j / sz) (e := z.cells.toList.map zeroA) (by rw [List.getElem?_replicate, if_pos hjd]) (k := j % sz) (x := zeroA (z.cells.toList[j % sz]'(by simp [hzs]; exact hjm))) (by rw [List.getElem?_map, hzj]; rfl)
      rw [hjj, hx] at hx2
      injection hx2 with hx2
      rw [List.getElem?_take_of_lt hj] at hv
      have hv2 : v = z.cells.toList[j % sz]'(by simp [hzs]; exact hjm) := by
        unfold madeCells at hv
        rw [hsz] at hv
        simp only [Array.toList_map, Array.toList_range, List.getElem?_map, List.getElem?_range hj, Option.map_some, Option.some.injEq] at hv
        rw [← hv, hzs, getElem!_pos z.cells _ (by rw [hzs]; exact hjm)]
        simp
      rw [hx2, hv2]
      exact ⟨zeroA_den R _, List.all_eq_true.1 h1' _ (by simp)⟩
/-- A literal row that the call goes on to write. -/
theorem sq_nilarr {ops : Array Oper} {rest : List Oper} {env : List (Nat × AV)} {K : AState → Prop} {p : Operand} {d : Nat} (e : TypeId) (sz : Nat) (hg : o.guard = none) (ho : o.op = .assign p) (hd : o.dst = some d) (hn : Nat.blt d n = true) (hp : Ev (getv · env) p AV.nils)
    (k : ∀ v', ASeq P G n ops rest ⟨.arr v' e sz [] :: own, (d, AV.is v') :: env⟩ K) : ASeq P G n ops (o :: rest) ⟨own, env⟩ K :=
  opS_run hg fun w0 R0 R a w ⟨h1, h2, h3, h4⟩ => by
    have e1 : a.eval p = .slice none 0 0 := ev_st (s := ⟨own, env⟩) (o := o) hp h2
    have hex : (execOp a.eval o).run P w = .ok (.value (.slice none 0 0)) w := by simp only [execOp, ho, e1, Sem.run_pure]
    unfold Oper.wp
    rw [hex, Oper.upon_value, hd]
    refine ⟨_, R, k _, RSub.refl _, ⟨h1.os, h1.tape, h1.output, h1.size, h1.block, h1.rle, h1.rold, fun q hq => ?_, fun q hq b hb => ?_, by simpa [List.filterMap_cons, Own.blk, Value.ownBlock] using h1.sep⟩, env_put h2 (RSub.refl _) (by rw [h3]; exact Nat.blt_eq.mp hn) rfl, by rw [size_put]; exact h3, by rw [defers_put]; exact h4⟩
    · rcases List.mem_cons.1 hq with rfl | hq
      · exact ⟨fun b hb => by simp [Value.ownBlock] at hb, fun x hx => by simp at hx, [], ⟨by simp, .inl ⟨rfl, rfl⟩⟩, ⟨rfl, fun i v x h => by simp at h⟩⟩
      · exact h1.owned q hq
    · rcases List.mem_cons.1 hq with rfl | hq
      · simp [Own.blk, Value.ownBlock] at hb
      · exact h1.fresh q hq b hb
theorem sq_emptyarr {ops : Array Oper} {rest : List Oper} {env : List (Nat × AV)} {K : AState → Prop} {t e : TypeId} {d sz : Nat} (hg : o.guard = none) (ho : o.op = .buildSlice t 0 #[]) (hd : o.dst = some d) (hn : Nat.blt d n = true) (ht : P.underlying t = some (.slice e)) (hs : ∀ w, (sizeOf e).run P w = .ok sz w)
    (k : ∀ v', ASeq P G n ops rest ⟨.arr v' e sz [] :: own, (d, AV.is v') :: env⟩ K) : ASeq P G n ops (o :: rest) ⟨own, env⟩ K :=
  opS_run hg fun w0 R0 R a w ⟨h1, h2, h3, h4⟩ => by
    have hex : (execOp a.eval o).run P w = .ok (.value (.slice (some ⟨w.heap.size, 0, none⟩) 0 0)) (w.alloc (.cells #[] e)) := by
      simp [execOp, ho, Instr.buildSlice, run_underlying ht, hs, newRow, Instr.fill, go_sem]
    unfold Oper.wp
    rw [hex, Oper.upon_value, hd]
    exact ⟨_, R, k _, RSub.refl _, core_arr_new h1 rfl (Nat.le_refl _) (Nat.zero_le _) (by simp) (fun x hx => by simp at hx) ⟨by simp, fun i v x h => by simp at h⟩, env_put h2 (RSub.refl _) (by rw [h3]; exact Nat.blt_eq.mp hn) rfl, by rw [size_put]; exact h3, by rw [defers_put]; exact h4⟩

/-! ### Slices of lists and of strings -/
theorem flatten_take_drop {sz : Nat} {es : List (List AV)} (h : ∀ e ∈ es, e.length = sz) (lo hi : Nat) : ((es.take hi).drop lo).flatten = (es.flatten.take (hi * sz)).drop (lo * sz) := by
  rw [flatten_drop lo (fun e he => h e (List.mem_of_mem_take he)), flatten_take hi h]
theorem list_slice {R : RHeap} {sz len cap lo hi : Nat} {oa : Option Addr} {es : List (List AV)} (h1 : len = es.length) (h2 : len ≤ cap) (h3 : cap ≤ maxLen) (hu : ∀ e ∈ es, e.length = sz) (hc : es ≠ [] → ∃ a, oa = some a ∧ CellsAt R a es.flatten) (hlo : lo ≤ hi) (hhi : hi ≤ es.length) :
    (AV.list sz ((es.take hi).drop lo)).den R (sliced oa lo hi cap sz) := by
  unfold sliced
  have hl : ((es.take hi).drop lo).length = hi - lo := by simp; omega
  refine ⟨_, _, by rw [hl], by rw [hl]; omega, by omega, fun e he => hu e (List.mem_of_mem_take (List.mem_of_mem_drop he)), fun hne => ?_⟩
  have hlt : lo < hi := by
    rcases Nat.lt_or_ge lo hi with h | h
    · exact h
    · exact absurd (List.eq_nil_of_length_eq_zero (by rw [hl]; omega)) hne
  obtain ⟨a, rfl, hca⟩ := hc (fun h => by subst h; simp at hhi; omega)
  rw [if_neg (by omega)]
  refine ⟨_, rfl, fun j x hx => ?_⟩
  rw [flatten_take_drop hu, List.getElem?_drop] at hx
  have hjb : lo * sz + j < hi * sz := by
    have := (List.getElem?_eq_some_iff.1 hx).1
    rw [List.length_take] at this; omega
  rw [List.getElem?_take_of_lt hjb] at hx
  rw [add_add]
  exact hca _ x hx
theorem w_lsl_hi {t e : TypeId} {p q : Operand} {sz : Nat} {es : List (List AV)} {hi : Int} (ho : o.op = .slice t p none (some q) none) (ht : P.underlying t = some (.slice e)) (hsz : ∀ w, (sizeOf e).run P w = .ok sz w) (hp : Ev E p (AV.list sz es)) (hq : Ev E q (AV.int hi)) (h0 : 0 ≤ hi) (h1 : hi ≤ es.length) :
    OpW P G n own o E (AV.list sz (es.take hi.toNat)) := opW_val fun R a w hr he => by
  obtain ⟨oa, c, e1, hc1, hc2, hu, hc⟩ := ev_use hp (by simp [ho, Op.operands]) he
  have e2 : a.eval q = .int .i64 hi := ev_use hq (by simp [ho, Op.operands]) he
  have hel : P.elem t = e := by simp [Program.elem, ht]
  have hr1 := run_slice_h (P := P) (w := w) (t := t) (a := oa) (len := es.length) (cap := c) (by rw [hel]; exact ht) .i64 hi h0 (by omega)
  rw [hel, hsz, Result.andThen_ok] at hr1
  exact ⟨_, by simp only [execOp, ho, e1, e2, Option.map_some, Option.map_none, run_sliceAt_slice w t _ _ _ _ (by rw [hel]; exact ht), hr1, Sem.run_bind, Sem.run_pure, Result.andThen_ok], list_slice (lo := 0) (hi := hi.toNat) rfl hc1 hc2 hu hc (Nat.zero_le _) (by omega)⟩
theorem w_lsl_lo {t e : TypeId} {p q : Operand} {sz : Nat} {es : List (List AV)} {lo : Int} (ho : o.op = .slice t p (some q) none none) (ht : P.underlying t = some (.slice e)) (hsz : ∀ w, (sizeOf e).run P w = .ok sz w) (hp : Ev E p (AV.list sz es)) (hq : Ev E q (AV.int lo)) (h0 : 0 ≤ lo) (h1 : lo ≤ es.length) :
    OpW P G n own o E (AV.list sz (es.drop lo.toNat)) := opW_val fun R a w hr he => by
  obtain ⟨oa, c, e1, hc1, hc2, hu, hc⟩ := ev_use hp (by simp [ho, Op.operands]) he
  have e2 : a.eval q = .int .i64 lo := ev_use hq (by simp [ho, Op.operands]) he
  have hel : P.elem t = e := by simp [Program.elem, ht]
  have hr1 := run_slice_l (P := P) (w := w) (t := t) (a := oa) (len := es.length) (cap := c) (by rw [hel]; exact ht) .i64 lo h0 (by omega)
  rw [hel, hsz, Result.andThen_ok] at hr1
  have := list_slice (lo := lo.toNat) (hi := es.length) rfl hc1 hc2 hu hc (by omega) (Nat.le_refl _)
  rw [List.take_length] at this
  exact ⟨_, by simp only [execOp, ho, e1, e2, Option.map_some, Option.map_none, run_sliceAt_slice w t _ _ _ _ (by rw [hel]; exact ht), hr1, Sem.run_bind, Sem.run_pure, Result.andThen_ok], this⟩
theorem w_lsl_lohi {t e : TypeId} {p q q' : Operand} {sz : Nat} {es : List (List AV)} {lo hi : Int} (ho : o.op = .slice t p (some q) (some q') none) (ht : P.underlying t = some (.slice e)) (hsz : ∀ w, (sizeOf e).run P w = .ok sz w) (hp : Ev E p (AV.list sz es)) (hq : Ev E q (AV.int lo)) (hq' : Ev E q' (AV.int hi)) (h0 : 0 ≤ lo) (h1 : lo ≤ hi) (h2 : hi ≤ es.length) :
    OpW P G n own o E (AV.list sz ((es.take hi.toNat).drop lo.toNat)) := opW_val fun R a w hr he => by
  obtain ⟨oa, c, e1, hc1, hc2, hu, hc⟩ := ev_use hp (by simp [ho, Op.operands]) he
  have e2 : a.eval q = .int .i64 lo := ev_use hq (by simp [ho, Op.operands]) he
  have e3 : a.eval q' = .int .i64 hi := ev_use hq' (by simp [ho, Op.operands]) he
  have hel : P.elem t = e := by simp [Program.elem, ht]
  have hr1 := run_slice_lh (P := P) (w := w) (t := t) (a := oa) (len := es.length) (cap := c) (by rw [hel]; exact ht) .i64 .i64 lo hi h0 h1 (by omega)
  rw [hel, hsz, Result.andThen_ok] at hr1
  exact ⟨_, by simp only [execOp, ho, e1, e2, e3, Option.map_some, Option.map_none, run_sliceAt_slice w t _ _ _ _ (by rw [hel]; exact ht), hr1, Sem.run_bind, Sem.run_pure, Result.andThen_ok], list_slice (lo := lo.toNat) (hi := hi.toNat) rfl hc1 hc2 hu hc (by omega) (by omega)⟩
theorem w_lsl_all {t e : TypeId} {p : Operand} {sz : Nat} {es : List (List AV)} (ho : o.op = .slice t p none none none) (ht : P.underlying t = some (.slice e)) (hsz : ∀ w, (sizeOf e).run P w = .ok sz w) (hp : Ev E p (AV.list sz es)) :
    OpW P G n own o E (AV.list sz es) := opW_val fun R a w hr he => by
  obtain ⟨oa, c, e1, hc1, hc2, hu, hc⟩ := ev_use hp (by simp [ho, Op.operands]) he
  have hel : P.elem t = e := by simp [Program.elem, ht]
  have hr1 := run_slice_all (P := P) (w := w) (t := t) (a := oa) (len := es.length) (cap := c) (by rw [hel]; exact ht)
  rw [hel, hsz, Result.andThen_ok] at hr1
  have := list_slice (lo := 0) (hi := es.length) rfl hc1 hc2 hu hc (Nat.zero_le _) (Nat.le_refl _)
  rw [List.take_length, List.drop_zero] at this
  exact ⟨_, by simp only [execOp, ho, e1, Option.map_none, run_sliceAt_slice w t _ _ _ _ (by rw [hel]; exact ht), hr1, Sem.run_bind, Sem.run_pure, Result.andThen_ok], this⟩
theorem w_ssl_hi {t : TypeId} {p q : Operand} {s : List UInt8} {hi : Int} (ho : o.op = .slice t p none (some q) none) (ht : P.underlying t = some .string) (hp : Ev E p (AV.str s)) (hq : Ev E q (AV.int hi)) (h0 : 0 ≤ hi) (h1 : hi ≤ s.length) :
    OpW P G n own o E (AV.str (s.take hi.toNat)) := opW_val fun R a w hr he => by
  have e1 : a.eval p = .string ⟨s.toArray⟩ := ev_use hp (by simp [ho, Op.operands]) he
  have e2 : a.eval q = .int .i64 hi := ev_use hq (by simp [ho, Op.operands]) he
  have hr1 := run_slice_string_h (P := P) w t ⟨s.toArray⟩ ht .i64 hi h0 (by rw [size_mk]; omega)
  rw [ByteArray.extract_mk] at hr1
  simp only [List.drop_zero, Nat.sub_zero] at hr1
  exact ⟨_, by simp only [execOp, ho, e1, e2, Option.map_some, Option.map_none, run_sliceAt_string w t _ _ _ _ ht, hr1, Sem.run_bind, Sem.run_pure, Result.andThen_ok], rfl⟩
theorem w_ssl_lo {t : TypeId} {p q : Operand} {s : List UInt8} {lo : Int} (ho : o.op = .slice t p (some q) none none) (ht : P.underlying t = some .string) (hp : Ev E p (AV.str s)) (hq : Ev E q (AV.int lo)) (h0 : 0 ≤ lo) (h1 : lo ≤ s.length) :
    OpW P G n own o E (AV.str (s.drop lo.toNat)) := opW_val fun R a w hr he => by
  have e1 : a.eval p = .string ⟨s.toArray⟩ := ev_use hp (by simp [ho, Op.operands]) he
  have e2 : a.eval q = .int .i64 lo := ev_use hq (by simp [ho, Op.operands]) he
  have hr1 := run_slice_string_l (P := P) w t ⟨s.toArray⟩ ht .i64 lo h0 (by rw [size_mk]; omega)
  rw [ByteArray.extract_mk, size_mk, List.take_of_length_le (by simp)] at hr1
  exact ⟨_, by simp only [execOp, ho, e1, e2, Option.map_some, Option.map_none, run_sliceAt_string w t _ _ _ _ ht, hr1, Sem.run_bind, Sem.run_pure, Result.andThen_ok], rfl⟩
theorem w_ssl_lohi {t : TypeId} {p q q' : Operand} {s : List UInt8} {lo hi : Int} (ho : o.op = .slice t p (some q) (some q') none) (ht : P.underlying t = some .string) (hp : Ev E p (AV.str s)) (hq : Ev E q (AV.int lo)) (hq' : Ev E q' (AV.int hi)) (h0 : 0 ≤ lo) (h1 : lo ≤ hi) (h2 : hi ≤ s.length) :
    OpW P G n own o E (AV.str ((s.take hi.toNat).drop lo.toNat)) := opW_val fun R a w hr he => by
  have e1 : a.eval p = .string ⟨s.toArray⟩ := ev_use hp (by simp [ho, Op.operands]) he
  have e2 : a.eval q = .int .i64 lo := ev_use hq (by simp [ho, Op.operands]) he
  have e3 : a.eval q' = .int .i64 hi := ev_use hq' (by simp [ho, Op.operands]) he
  have hr1 := run_slice_string (P := P) w t ⟨s.toArray⟩ .i64 .i64 lo hi ht h0 h1 (by rw [size_mk]; omega)
  rw [ByteArray.extract_mk, ← List.drop_take] at hr1
  exact ⟨_, by simp only [execOp, ho, e1, e2, e3, Option.map_some, Option.map_none, run_sliceAt_string w t _ _ _ _ ht, hr1, Sem.run_bind, Sem.run_pure, Result.andThen_ok], rfl⟩
/-! ### Reading an array of the call's own -/
theorem addr_add (b o k : Nat) : ((⟨b, o, none⟩ : Addr).add k) = ⟨b, o + k, none⟩ := by unfold Addr.add; split <;> simp_all
theorem own_cells {R : RHeap} {w : World} {v : Value} {e : TypeId} {sz : Nat} {es : List (List AV)} (h : Own.ok R w (.arr v e sz es)) {j : Nat} {x : AV} (hx : es.flatten[j]? = some x) : ∃ g u, elemPtr v j = .pointer (some ⟨g, j, none⟩) ∧ v.ownBlock = some g ∧ w.cell? ⟨g, j, none⟩ = some u ∧ x.den R u ∧ u.oneCell' = true := by
  obtain ⟨_, hu, xs, hown, hd⟩ := h
  have hj : j < xs.length := by rw [hd.1]; exact (List.getElem?_eq_some_iff.1 hx).1
  have hvj : xs[j]? = some xs[j] := List.getElem?_eq_getElem hj
  rcases hown.2 with ⟨rfl, hz⟩ | ⟨g, cap, cur, rfl, _, hg, hn, hmx, hcs, htake⟩
  · have := hown.1
    rw [hz] at this; omega
  · have hcur : cur[j]? = some xs[j] := by
      have hq : xs[j]? = cur.toList[j]? := by rw [← htake, List.getElem?_take_of_lt (by rw [← hown.1]; exact hj)]
      rw [← Array.getElem?_toList, ← hq, hvj]
    refine ⟨g, xs[j], ?_, rfl, by simp [World.cell?, hg, hcur], hd.2 j _ x hvj hx⟩
    show Value.pointer (some (Addr.add ⟨g, 0, none⟩ j)) = _
    unfold Addr.add; split <;> simp_all
theorem w_loadX1 {t e : TypeId} {p : Operand} {v : Value} {sz j : Nat} {es : List (List AV)} {x : AV} (i : Nat) (ho : o.op = .load t p) (hp : Ev E p (AV.is (elemPtr v j))) (hi : own[i]? = some (.arr v e sz es)) (ha : ∀ w, (isAgg t).run P w = .ok false w) (hx : es.flatten[j]? = some x) : OpW P G n own o E x := opW_core fun w0 R0 R a w hc he => by
  have e1 : a.eval p = _ := ev_use hp (by simp [ho, Op.operands]) he
  obtain ⟨g, u, h1, _, h2, h3, _⟩ := own_cells (hc.owned _ (List.mem_of_getElem? hi)) hx
  rw [h1] at e1
  exact ⟨u, by simp only [execOp, ho, e1, Instr.loadAt, Instr.sureAddr, loadVar, Sem.run_bind, Sem.run_pure, Result.andThen_ok, ha, Bool.false_eq_true, if_false, run_load, h2], h3⟩
theorem w_loadX {t e : TypeId} {p : Operand} {v : Value} {sz k : Nat} {es : List (List AV)} {ys : List AV} (i : Nat) (ho : o.op = .load t p) (hp : Ev E p (AV.is (elemPtr v (k * sz)))) (hi : own[i]? = some (.arr v e sz es)) (ha : ∀ w, (isAgg t).run P w = .ok true w) (hs : ∀ w, (sizeOf t).run P w = .ok sz w) (hy : es[k]? = some ys) (hpos : 0 < sz) : OpW P G n own o E (AV.agg ys) := opW_core fun w0 R0 R a w hc he => by
  have e1 : a.eval p = _ := ev_use hp (by simp [ho, Op.operands]) he
  have hok := hc.owned _ (List.mem_of_getElem? hi)
  have hu := hok.2.1
  have hyl : ys.length = sz := hu ys (List.mem_of_getElem? hy)
  have hf : ∀ j x, ys[j]? = some x → es.flatten[k * sz + j]? = some x := fun j x hx => flatten_get hu hy hx
  obtain ⟨g, u0, h1, hgb, _⟩ := own_cells hok (hf 0 ys[0] (List.getElem?_eq_getElem (by omega)))
  simp only [Nat.add_zero] at h1
  rw [h1] at e1
  have hcell : ∀ j, j < sz → w.cell? ((⟨g, k * sz, none⟩ : Addr).add j) = some ((w.cell? ((⟨g, k * sz, none⟩ : Addr).add j)).getD undef) := fun j hj => by
    obtain ⟨g', u, _, hgb', h3, _⟩ := own_cells hok (hf j ys[j] (List.getElem?_eq_getElem (by omega)))
    have : g' = g := by rw [hgb] at hgb'; injection hgb' with h; exact h.symm
    subst this
    have ha : ((⟨g', k * sz, none⟩ : Addr).add j) = ⟨g', k * sz + j, none⟩ := addr_add _ _ _
    rw [ha, h3]; rfl
  have h3 := run_loadCells (P := P) w ⟨g, k * sz, none⟩ sz (fun j => (w.cell? ((⟨g, k * sz, none⟩ : Addr).add j)).getD undef) hcell
  refine ⟨.agg ((List.range sz).map fun j => (w.cell? ((⟨g, k * sz, none⟩ : Addr).add j)).getD undef).toArray, ?_, _, rfl, by simp [hyl], fun j v' x hv hx => ?_⟩
  · simp only [execOp, ho, e1, Instr.loadAt, Instr.sureAddr, loadVar, Sem.run_bind, Sem.run_pure, Result.andThen_ok, ha, if_true, hs, h3]
  · have hj : j < sz := by rw [← hyl]; exact (List.getElem?_eq_some_iff.1 hx).1
    obtain ⟨g', u, _, hgb', h4, h5, h6⟩ := own_cells hok (hf j x hx)
    have : g' = g := by rw [hgb] at hgb'; injection hgb' with h; exact h.symm
    subst this
    have ha : ((⟨g', k * sz, none⟩ : Addr).add j) = ⟨g', k * sz + j, none⟩ := addr_add _ _ _
    rw [List.getElem?_map, List.getElem?_range hj, Option.map_some, ha, h4] at hv
    simp at hv; subst hv
    exact ⟨h5, h6⟩
theorem le_eq {own own' : List Own} {env env' : List (Nat × AV)} (ho : own = own') (h : AllIn env env') : Le G n ⟨own, env⟩ ⟨own', env'⟩ := by subst ho; exact le_env h
theorem le_dropeq {own own' : List Own} {env env' : List (Nat × AV)} (k : Nat) (ho : own.drop k = own') (h : AllIn env env') : Le G n ⟨own, env⟩ ⟨own', env'⟩ := by subst ho; exact le_drop k h
theorem fill_step {α : Type} {l : List α} {f : α → List AV} {z : List AV} {i : Nat} {x : α} (h : l[i]? = some x) : ((l.take i).map f ++ List.replicate (l.length - i) z).set i (f x) = (l.take (i + 1)).map f ++ List.replicate (l.length - (i + 1)) z := by
  obtain ⟨hi, he⟩ := List.getElem?_eq_some_iff.1 h
  have h1 : ((l.take i).map f).length = i := by simp; omega
  rw [List.set_append_right _ _ (by rw [h1]; exact Nat.le_refl _), h1, Nat.sub_self, show l.length - i = (l.length - (i + 1)) + 1 by omega, List.replicate_succ, List.set_cons_zero, List.take_succ_eq_append_getElem hi, he]
  simp
theorem fill_done {α : Type} {l : List α} {f : α → List AV} {z : List AV} {i : Nat} (h : l.length ≤ i) : (l.take i).map f ++ List.replicate (l.length - i) z = l.map f := by
  rw [List.take_of_length_le h, show l.length - i = 0 by omega]; simp
theorem fill_len {α : Type} {l : List α} {f : α → List AV} {z : List AV} {i : Nat} (h : i ≤ l.length) : ((l.take i).map f ++ List.replicate (l.length - i) z).length = l.length := by
  simp; omega
theorem w_min {p q : Operand} {tys : Array TypeId} {x y : Int} {k : IntKind} (ho : o.op = .call { callee := .builtin .min, args := #[p, q], argTypes := tys }) (hp : Ev E p (AV.ik k x)) (hq : Ev E q (AV.ik k y)) : OpW P G n own o E (AV.ik k (if y < x then y else x)) := opW_val fun R a w _ he => by
  have h1 : a.eval p = .int k x := ev_use hp (by simp [ho, Op.operands, Call.operands]) he
  have h2 : a.eval q = .int k y := ev_use hq (by simp [ho, Op.operands, Call.operands]) he
  refine ⟨.int k (if y < x then y else x), ?_, rfl⟩
  simp only [execOp, ho, resolve, invoke, builtin, List.map_toArray, List.map_cons, List.map_nil, h1, h2, Sem.run_bind, Sem.run_pure, Result.andThen_ok]
  rfl
theorem w_max {p q : Operand} {tys : Array TypeId} {x y : Int} {k : IntKind} (ho : o.op = .call { callee := .builtin .max, args := #[p, q], argTypes := tys }) (hp : Ev E p (AV.ik k x)) (hq : Ev E q (AV.ik k y)) : OpW P G n own o E (AV.ik k (if y > x then y else x)) := opW_val fun R a w _ he => by
  have h1 : a.eval p = .int k x := ev_use hp (by simp [ho, Op.operands, Call.operands]) he
  have h2 : a.eval q = .int k y := ev_use hq (by simp [ho, Op.operands, Call.operands]) he
  refine ⟨.int k (if y > x then y else x), ?_, rfl⟩
  simp only [execOp, ho, resolve, invoke, builtin, List.map_toArray, List.map_cons, List.map_nil, h1, h2, Sem.run_bind, Sem.run_pure, Result.andThen_ok]
  rfl
/-! ### Lists that are a Lean list, element by element -/
theorem w_idxm {α : Type} {f : α → List AV} {l : List α} {t e : TypeId} {p q : Operand} {sz k : Nat} {i : Int} {x : α} (ho : o.op = .indexAddr t p q) (ht : P.underlying t = some (.slice e)) (hsz : ∀ w, (sizeOf e).run P w = .ok sz w) (hp : Ev E p (AV.list sz (l.map f))) (hq : Ev E q (AV.int i)) (hx : l[k]? = some x) (hk : i = (k : Int)) :
    OpW P G n own o E (AV.eptr (f x)) := w_idx ho ht hsz hp hq (by omega) (by rw [show i.toNat = k by omega, List.getElem?_map, hx]; rfl)
theorem w_lsl_him {α : Type} {f : α → List AV} {l : List α} {t e : TypeId} {p q : Operand} {sz : Nat} {hi : Int} (ho : o.op = .slice t p none (some q) none) (ht : P.underlying t = some (.slice e)) (hsz : ∀ w, (sizeOf e).run P w = .ok sz w) (hp : Ev E p (AV.list sz (l.map f))) (hq : Ev E q (AV.int hi)) (h0 : 0 ≤ hi) (h1 : hi ≤ l.length) :
    OpW P G n own o E (AV.list sz ((l.take hi.toNat).map f)) := by
  rw [List.map_take]
  exact w_lsl_hi ho ht hsz hp hq h0 (by rw [List.length_map]; exact h1)
theorem w_lsl_lom {α : Type} {f : α → List AV} {l : List α} {t e : TypeId} {p q : Operand} {sz : Nat} {lo : Int} (ho : o.op = .slice t p (some q) none none) (ht : P.underlying t = some (.slice e)) (hsz : ∀ w, (sizeOf e).run P w = .ok sz w) (hp : Ev E p (AV.list sz (l.map f))) (hq : Ev E q (AV.int lo)) (h0 : 0 ≤ lo) (h1 : lo ≤ l.length) :
    OpW P G n own o E (AV.list sz ((l.drop lo.toNat).map f)) := by
  rw [List.map_drop]
  exact w_lsl_lo ho ht hsz hp hq h0 (by rw [List.length_map]; exact h1)
theorem w_lsl_lohim {α : Type} {f : α → List AV} {l : List α} {t e : TypeId} {p q q' : Operand} {sz : Nat} {lo hi : Int} (ho : o.op = .slice t p (some q) (some q') none) (ht : P.underlying t = some (.slice e)) (hsz : ∀ w, (sizeOf e).run P w = .ok sz w) (hp : Ev E p (AV.list sz (l.map f))) (hq : Ev E q (AV.int lo)) (hq' : Ev E q' (AV.int hi)) (h0 : 0 ≤ lo) (h1 : lo ≤ hi) (h2 : hi ≤ l.length) :
    OpW P G n own o E (AV.list sz (((l.take hi.toNat).drop lo.toNat).map f)) := by
  rw [List.map_drop, List.map_take]
  exact w_lsl_lohi ho ht hsz hp hq hq' h0 h1 (by rw [List.length_map]; exact h2)
end
end Go.AV
