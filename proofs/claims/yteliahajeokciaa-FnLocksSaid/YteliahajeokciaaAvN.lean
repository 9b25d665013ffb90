/- Own values in own arrays: a row of aggregates, each with arrays of its own, that stand at the end of what is owned. -/
import Derived.Test.YteliahajeokciaaAvE
set_option linter.unusedVariables false
set_option linter.unusedSimpArgs false
namespace Go.AV
section
variable {P : Program} {G : Nat → Prop} {n : Nat} {own : List Own}
theorem le_tail {t : List Own} {env : List (Nat × AV)} (k : Nat) (h : (own.drop k).Perm t) : Le G n ⟨own, env⟩ ⟨own.take k ++ t, env⟩ :=
  le_perm (by
    have := List.Perm.append_left (own.take k) h
    rw [List.take_append_drop] at this
    exact this)
theorem le_cut {t r : List Own} {env : List (Nat × AV)} (k : Nat) (h : (own.drop k).Perm (t ++ r)) : Le G n ⟨own, env⟩ ⟨own.take k ++ t, env⟩ := fun w0 R0 R a w hs => by
  obtain ⟨R', h1, h2, h3⟩ := le_tail (env := env) k h w0 R0 R a w hs
  exact ⟨R', h1, core_left (b := r) (by rw [List.append_assoc]; exact h2), h3⟩
theorem le_mid {X Y NT : List Own} {env : List (Nat × AV)} (j m : Nat) (h : (X.drop j ++ Y.drop m).Perm NT) : Le G n ⟨X ++ Y, env⟩ ⟨X.take j ++ (Y.take m ++ NT), env⟩ :=
  le_perm (by
    have h1 : (X ++ Y).Perm (X.take j ++ (Y.take m ++ (X.drop j ++ Y.drop m))) := by
      conv => lhs; rw [← List.take_append_drop j X, ← List.take_append_drop m Y]
      rw [List.append_assoc]
      refine List.Perm.append_left _ ?_
      rw [← List.append_assoc, ← List.append_assoc]
      exact List.Perm.append_right _ List.perm_append_comm
    exact h1.trans (List.Perm.append_left _ (List.Perm.append_left _ h)))
theorem perm_nil {t : List Own} : t.Perm (t ++ []) := by rw [List.append_nil]
theorem perm_lin {t : List Own} : (t ++ []).Perm t := by rw [List.append_nil]
theorem pick_perm' {sel rest : List Own} {is : List Nat} (h : pick own is = (sel, rest)) : own.Perm (sel ++ rest) := by
  induction is generalizing own sel rest with
  | nil => unfold pick at h; injection h with h1 h2; subst h1; subst h2; exact List.Perm.refl _
  | cons i is ih =>
    unfold pick at h
    cases hi : own[i]? with
    | none => rw [hi] at h; injection h with h1 h2; subst h1; subst h2; exact List.Perm.refl _
    | some x =>
      rw [hi] at h
      injection h with h1 h2; subst h1; subst h2
      exact (perm_erase hi).trans (List.Perm.cons x (ih rfl))
section
variable {o : Oper} {E : EnvF}
theorem opE_make {ops : Array Oper} {t e : TypeId} {p q : Operand} {sz by' m : Nat} {inf : TypeInfo} {z : Value} (ho : o.op = .makeSlice t p q)
    (ht : P.underlying t = some (.slice e)) (hinf : P.info? e = some inf) (hz : inf.zero = some z) (hsz : inf.size = sz) (hby : inf.bytes = by') (hzs : z.cells.size = sz) (hpos : Nat.ble 1 sz = true) (h1' : z.cells.toList.all Value.oneCell' = true) (hp : Ev E p (AV.int m)) (hq : Ev E q (AV.int m))
    (hlen : m * by' ≤ 281474976710656) (hlen2 : m ≤ 281474976710656) : OpE P G n own ops o E (fun _ : Value => True) (fun v' => own ++ [.arr v' e sz (List.replicate m (z.cells.toList.map zeroA))]) (fun v' => AV.is v') :=
  fun w0 R0 R a w h1 h3 h2 => by
    have e1 : a.eval p = .int .i64 m := ev_lookA (ops := ops) hp (by simp [ho, Op.operands]) h2
    have e2 : a.eval q = .int .i64 m := ev_lookA (ops := ops) hq (by simp [ho, Op.operands]) h2
    have hb1 := Nat.le_of_ble_eq_true hpos
    have hr := run_make (P := P) w t e inf z ht hinf hz .i64 .i64 (m : Int) (m : Int) (by omega) (by omega) (by rw [hby]; have h9 : ((m * by' : Nat) : Int) ≤ 281474976710656 := by omega
                                                                                                                rw [Int.natCast_mul] at h9; rw [Int.mul_comm]; exact h9) (by omega)
    simp only [Int.toNat_natCast] at hr
    have hex : (execOp a.eval o).run P w = .ok (.value (.slice (some ⟨w.heap.size, 0, none⟩) m m)) (w.alloc (.cells (madeCells z.cells (m * inf.size)) e)) := by
      simp only [execOp, ho, e1, e2, hr, Sem.run_bind, Sem.run_pure, Result.andThen_ok]
    unfold Oper.wp
    rw [hex, Oper.upon_value]
    have hms : (madeCells z.cells (m * inf.size)).size = m * sz := by rw [size_madeCells, hsz]
    refine ⟨_, _, R, trivial, rfl, core_perm (core_arr_new h1 (by simp) (Nat.le_refl _) (by unfold maxLen; omega) hms (fun x hx => ?_) ⟨?_, fun j v x hv hx => ?_⟩) (List.perm_append_comm (l₁ := [_])), RSub.refl _, rfl⟩
    · rw [(List.mem_replicate.1 hx).2]; simp [hzs]
    · rw [flatten_len (sz := sz) (fun x hx => by rw [(List.mem_replicate.1 hx).2]; simp [hzs])]
      simp [hms]
    · have hj : j < m * sz := by
        have := (List.getElem?_eq_some_iff.1 hx).1
        rw [flatten_len (sz := sz) (fun x hx => by rw [(List.mem_replicate.1 hx).2]; simp [hzs])] at this
        simpa using this
      have hjm : j % sz < sz := Nat.mod_lt _ (by omega)
      have hjj : j / sz * sz + j % sz = j := by rw [Nat.mul_comm]; exact Nat.div_add_mod j sz
      have hjd : j / sz < m := Nat.div_lt_of_lt_mul (by rw [Nat.mul_comm]; exact hj)
      have hzj : z.cells.toList[j % sz]? = some (z.cells.toList[j % sz]'(by simp [hzs]; exact hjm)) := List.getElem?_eq_getElem _
      have hx2 := flatten_get (sz := sz) (es := List.replicate m (z.cells.toList.map zeroA)) (fun x hx => by rw [(List.mem_replicate.1 hx).2]; simp [hzs]) (i := j / sz) (e := z.cells.toList.map zeroA) (by rw [List.getElem?_replicate, if_pos hjd]) (k := j % sz) (x := zeroA (z.cells.toList[j % sz]'(by simp [hzs]; exact hjm))) (by rw [List.getElem?_map, hzj]; rfl)
      rw [hjj, hx] at hx2
      injection hx2 with hx2
      rw [List.getElem?_take_of_lt hj] at hv
      have hv2 : v = z.cells.toList[j % sz]'(by simp [hzs]; exact hjm) := by
        unfold madeCells at hv
        rw [hsz] at hv
        simp only [Array.toList_map, Array.toList_range, List.getElem?_map, List.getElem?_range hj, Option.map_some, Option.some.injEq] at hv
        rw [← hv, hzs, getElem!_pos z.cells _ (by rw [hzs]; exact hjm)]
        simp
      rw [hx2, hv2]
      exact ⟨zeroA_den R _, List.all_eq_true.1 h1' _ (by simp)⟩
end
section
variable {α : Type} {ok : α → Prop} {O : α → List Own} {V : α → AV} {o : Oper}
theorem sq_callGP {ops : Array Oper} {rs : List Oper} {env : List (Nat × AV)} {K : AState → Prop} {d : Nat} {f : FuncId} {args : Array Operand} {tys : Array TypeId} {ps : List Operand} {xs : List AV} {sel rest : List Own} {own' : α → List Own} (hg : o.guard = none) (ho : o.op = .call { callee := .value (.func f), args := args, argTypes := tys }) (hd : o.dst = some d) (hn : Nat.blt d n = true)
    (hc : ∀ (vs : Array Value) (w : World), (callFunc f vs).run P w = .ok (.enter f vs) w) (hps : args.toList = ps) (hp : own.Perm (sel ++ rest)) (hs : GSpec P f xs sel ok O V) (he : EvL (getv · env) ps xs) (hq : ∀ a, (O a ++ rest).Perm (own' a))
    (k : ∀ a, ok a → ASeq P G n ops rs ⟨own' a, (d, V a) :: env⟩ K) : ASeq P G n ops (o :: rs) ⟨own, env⟩ K :=
  opS_run hg fun w0 R0 R a w ⟨h1, h2, h3, h4⟩ => by
    have hcore := core_perm h1 hp
    have hden := evl_use (o := o) (fun t _ y hy => h2 t y hy) he fun p hp => by simp [ho, Op.operands, Call.operands]; right; rw [← hps] at hp; exact Array.mem_toList_iff.1 hp
    have hrun : (execOp a.eval o).run P w = .ok (.enter f (ps.map a.eval).toArray) w := by
      have hargs : args.map a.eval = (ps.map a.eval).toArray := by rw [← hps]; cases args; simp
      simp only [execOp, ho, resolve, hargs, show a.eval (.func f) = .func (.func f) #[] #[] from rfl]
      simp [Deferred.ofValue, invoke, hc]
    unfold Oper.wp
    rw [hrun, Oper.upon_enter]
    refine (hs R w _ hcore.rle hden (fun q hq => hcore.owned q (List.mem_append_left _ hq)) (core_left hcore).sep).mono fun e w' ⟨x, v, R', e0, e1, e2, e3⟩ => ?_
    subst e1
    have hR := rsub_of hcore.rle e3.rold
    refine ⟨⟨own' x, (d, V x) :: env⟩, R', k x e0, hR, core_perm (core_after hcore e3) (hq x), ?_, by rw [size_put]; exact h3, by rw [defers_put]; exact h4⟩
    rw [hd]
    exact env_put h2 hR (by rw [h3]; exact Nat.blt_eq.mp hn) e2
theorem opE_mid {ops : Array Oper} {E : EnvF} {rest : List Own} (m : Nat) (h : OpE P G n own ops o E ok (fun a => rest ++ O a) V) : OpE P G n own ops o E ok (fun a => rest.take m ++ (O a ++ rest.drop m)) V := fun w0 R0 R a w h1 h2 h3 =>
  Oper.wp_mono2 (fun a' w' ⟨x, v, R', e0, e1, e2, e3, e4⟩ => ⟨x, v, R', e0, e1, core_perm e2 (by
    show (rest ++ O x).Perm (rest.take m ++ (O x ++ rest.drop m))
    conv => lhs; rw [← List.take_append_drop m rest]
    rw [List.append_assoc]
    exact List.Perm.append_left _ List.perm_append_comm), e3, e4⟩) (fun _ _ _ h => h) (h w0 R0 R a w h1 h2 h3)
theorem opE_one {ops : Array Oper} {E : EnvF} {W' : α → List Own} {g : α → Value} {e : TypeId} {sz : Nat} {es : List (List AV)} (i : Nat) (hg : ∀ a, (W' a)[i]? = some (.arr (g a) e sz es)) (h : OpE P G n own ops o E ok W' V) : OpE P G n own ops o E (fun a => ok a ∧ (g a).oneCell' = true) W' V := fun w0 R0 R a w h1 h2 h3 =>
  Oper.wp_mono2 (fun a' w' ⟨x, v, R', e0, e1, e2, e3, e4⟩ => ⟨x, v, R', ⟨e0, own_one (e2.owned _ (List.mem_of_getElem? (hg x)))⟩, e1, e2, e3, e4⟩) (fun _ _ _ h => h) (h w0 R0 R a w h1 h2 h3)
theorem opE_midT {ops : Array Oper} {E : EnvF} {rest : List Own} (m j : Nat) (NT : α → List Own) (hN : ∀ a, ((O a).drop j ++ rest.drop m).Perm (NT a)) (h : OpE P G n own ops o E ok (fun a => rest ++ O a) V) : OpE P G n own ops o E ok (fun a => rest.take m ++ ((O a).take j ++ NT a)) V := fun w0 R0 R a w h1 h2 h3 =>
  Oper.wp_mono2 (fun a' w' ⟨x, v, R', e0, e1, e2, e3, e4⟩ => ⟨x, v, R', e0, e1, core_perm e2 (by
    show (rest ++ O x).Perm (rest.take m ++ ((O x).take j ++ NT x))
    have h5 : (rest ++ O x).Perm (rest.take m ++ ((O x).take j ++ ((O x).drop j ++ rest.drop m))) := by
      conv => lhs; rw [← List.take_append_drop m rest, ← List.take_append_drop j (O x)]
      rw [List.append_assoc]
      refine List.Perm.append_left _ ?_
      refine List.perm_append_comm.trans ?_
      rw [List.append_assoc]
    exact h5.trans (List.Perm.append_left _ (List.Perm.append_left _ (hN x)))), e3, e4⟩) (fun _ _ _ h => h) (h w0 R0 R a w h1 h2 h3)
theorem opE_alloc {ops : Array Oper} {E : EnvF} {t : TypeId} {z : Value} (ho : o.op = .alloc t)
    (hz : ∀ w, (zeroValue t).run P w = .ok z w) (h1' : z.cells.toList.all Value.oneCell' = true) : OpE P G n own ops o E (fun _ : Nat => True) (fun b => own ++ [.box b t (z.cells.toList.map zeroA)]) (fun b => AV.ptr b 0) :=
  fun w0 R0 R a w h1 h3 h2 => by
    have hrun : (execOp a.eval o).run P w = .ok (.value (.pointer (some ⟨w.heap.size, 0, none⟩))) (w.alloc (.cells z.cells.toList.toArray t)) := by
      simp only [execOp, ho, Instr.alloc, newVar, newRow, hz, Array.toArray_toList, Sem.run_bind, Sem.run_pure, Result.andThen_ok, run_newObj, World.alloc_eq]
    unfold Oper.wp
    rw [hrun, Oper.upon_value]
    exact ⟨w.heap.size, _, R, trivial, rfl, core_perm (core_box h1 ⟨by simp, fun i v y hv hy => by
      rw [List.getElem?_map, hv] at hy
      simp at hy; subst hy
      exact ⟨zeroA_den R v, List.all_eq_true.1 h1' v (List.mem_of_getElem? hv)⟩⟩) (List.perm_append_comm (l₁ := [_])), RSub.refl _, rfl⟩
theorem opE_at {ops : Array Oper} {E : EnvF} {W' : α → List Own} (m : Nat) (W2 : α → List Own) (hp : ∀ a, (W' a).Perm (W2 a)) (h : OpE P G n own ops o E ok W' V) : OpE P G n own ops o E ok W2 V := fun w0 R0 R a w h1 h2 h3 =>
  Oper.wp_mono2 (fun a' w' ⟨x, v, R', e0, e1, e2, e3, e4⟩ => ⟨x, v, R', e0, e1, core_perm e2 (hp x), e3, e4⟩) (fun _ _ _ h => h) (h w0 R0 R a w h1 h2 h3)
theorem opE_storeB0 {ops : Array Oper} {E : EnvF} {t t' : TypeId} {p q : Operand} {b : Nat} {cs ys : List AV} {x : AV} (i : Nat) (ho : o.op = .store t p q) (hd : o.dst = none)
    (hp : Ev E p (AV.ptr b 0)) (hq : Ev E q x) (hx : AsCells x ys) (hi : own[i]? = some (.box b t' cs)) (hs : ∀ w, (sizeOf t).run P w = .ok ys.length w) (hl' : Nat.beq ys.length cs.length = true) : OpE P G n own ops o E (fun _ : Unit => True) (fun _ => own.set i (.box b t' ys)) (fun _ => AV.int 0) :=
  fun w0 R0 R a w h1 h3 h2 => by
    have e1 : a.eval p = .pointer (some ⟨b, 0, none⟩) := ev_lookA (ops := ops) hp (by simp [ho, Op.operands]) h2
    have e2 := hx R _ (ev_lookA (ops := ops) hq (by simp [ho, Op.operands]) h2)
    have e := Nat.eq_of_beq_eq_true hl'
    obtain ⟨hR, vs, hb, hdc⟩ := h1.owned _ (List.mem_of_getElem? hi)
    have hsz : (a.eval q).cells.size = ys.length := by rw [← Array.length_toList]; exact e2.1
    have hst := run_storeAt (P := P) (t := t) (off := 0) (u := a.eval q) hb (by rw [hsz]; exact hs w) (by rw [hsz, hdc.1]; omega) (fun u hu => by
      obtain ⟨j, hj⟩ := List.getElem?_of_mem hu
      have hjl : j < ys.length := by rw [← e2.1]; exact (List.getElem?_eq_some_iff.1 hj).1
      exact (e2.2 j u _ hj (List.getElem?_eq_getElem hjl)).2)
    have hrun : (execOp a.eval o).run P w = .ok .skip (w.setRow b (vs.take 0 ++ (a.eval q).cells.toList ++ vs.drop (0 + (a.eval q).cells.size)).toArray) := by
      simp only [execOp, ho, e1, hst, Sem.run_bind, Sem.run_pure, Result.andThen_ok]
    unfold Oper.wp
    rw [hrun, Oper.upon_skip, hd]
    refine ⟨(), .int .i64 0, R, trivial, rfl, core_set h1 hi rfl rfl ⟨hR, _, setRow_heap w b _ _ t' _ hb, ?_⟩ (setRow_grown w b _), RSub.refl _, rfl⟩
    rw [← Array.length_toList]
    have := denC_splice (off := 0) hdc e2 (by omega)
    rw [splice_all e] at this
    exact this
/-- A call that takes own parts from the front and a block from the end. -/
theorem sq_callGT {ops : Array Oper} {rs : List Oper} {env : List (Nat × AV)} {K : AState → Prop} {d : Nat} {f : FuncId} {args : Array Operand} {tys : Array TypeId} {ps : List Operand} {xs : List AV} {s1 r1 : List Own} (is : List Nat) (m j : Nat) (B D : List Own) (NT : α → List Own) (hg : o.guard = none) (ho : o.op = .call { callee := .value (.func f), args := args, argTypes := tys }) (hd : o.dst = some d) (hn : Nat.blt d n = true)
    (hc : ∀ (vs : Array Value) (w : World), (callFunc f vs).run P w = .ok (.enter f vs) w) (hps : args.toList = ps) (hp : pick own is = (s1, r1)) (hB : (r1.drop m).Perm (B ++ D)) (hs : GSpec P f xs (s1 ++ B) ok O V) (he : EvL (getv · env) ps xs) (hN : ∀ a, ((O a).drop j ++ D).Perm (NT a))
    (k : ∀ a, ok a → ASeq P G n ops rs ⟨(O a).take j ++ (r1.take m ++ NT a), (d, V a) :: env⟩ K) : ASeq P G n ops (o :: rs) ⟨own, env⟩ K := by
  refine sq_callGP (sel := s1 ++ B) (rest := r1.take m ++ D) (own' := fun a => (O a).take j ++ (r1.take m ++ NT a)) hg ho hd hn hc hps ?_ hs he (fun a => ?_) k
  · refine (pick_perm' hp).trans ?_
    have h1 : r1.Perm (r1.take m ++ (B ++ D)) := by
      have := List.Perm.append_left (r1.take m) hB
      rwa [List.take_append_drop] at this
    refine (List.Perm.append_left s1 h1).trans ?_
    rw [List.append_assoc]
    refine List.Perm.append_left s1 ?_
    rw [← List.append_assoc, ← List.append_assoc]
    exact List.Perm.append_right D List.perm_append_comm
  · have h1 : (O a ++ (r1.take m ++ D)).Perm ((O a).take j ++ (r1.take m ++ ((O a).drop j ++ D))) := by
      conv => lhs; rw [← List.take_append_drop j (O a)]
      rw [List.append_assoc]
      refine List.Perm.append_left _ ?_
      rw [← List.append_assoc, ← List.append_assoc]
      exact List.Perm.append_right D List.perm_append_comm
    exact h1.trans (List.Perm.append_left _ (List.Perm.append_left _ (hN a)))
theorem retGT {fn : Func} {s : AState} {sel rest : List Own} (is : List Nat) (m : Nat) (B D : List Own) (x : α) (hx : ok x) (hp : pick s.own is = (sel, rest)) (hB : (rest.drop m).Perm (B ++ D)) (ho : O x = sel ++ B) (h : ∀ w0 R0 R a w, St G n w0 R0 s R a w → ∃ v, (results fn a.tmps).run P w = .ok v w ∧ (V x).den R v) : RetOkG P G n fn s ok O V := fun w0 R0 R a w hs => by
  obtain ⟨v, h1, h2⟩ := h w0 R0 R a w hs
  refine ⟨x, v, R, hx, h1, h2, RSub.refl _, ?_⟩
  rw [ho]
  refine core_left (b := rest.take m ++ D) (core_perm hs.1 ?_)
  refine (pick_perm' hp).trans ?_
  have h1 : rest.Perm (rest.take m ++ (B ++ D)) := by
    have := List.Perm.append_left (rest.take m) hB
    rwa [List.take_append_drop] at this
  refine (List.Perm.append_left sel h1).trans ?_
  rw [List.append_assoc]
  refine List.Perm.append_left sel ?_
  rw [← List.append_assoc, ← List.append_assoc]
  exact List.Perm.append_right D List.perm_append_comm
end
end
/-! ### Regions in which effects stand in several orders -/
inductive OT where
  | nil
  | pure (i : Nat) (t : OT)
  | e1 (i : Nat) (t : OT)
  | e2 (i : Nat) (t : OT) (j : Nat) (u : OT)
def OT.deep : OT → Nat → Bool
  | .nil, 0 => true
  | .pure _ t, f + 1 => t.deep f
  | .e1 _ t, f + 1 => t.deep f
  | .e2 _ t _ u, f + 1 => t.deep f && u.deep f
  | _, _ => false
def ordT (md : Region.Mode) (ops : Array Oper) (g m : Nat) : OT → Array Bool → Bool
  | .nil, listed => Region.seqB md ops g m listed
  | .pure i r, listed => (Region.ready md ops listed).contains i && Region.free md ops listed i && Nat.blt i m && ordT md ops g m r (listed.setIfInBounds i true)
  | .e1 i r, listed => decide (Region.ready md ops listed = [i]) && Nat.blt i m && ordT md ops g m r (listed.setIfInBounds i true)
  | .e2 i r j u, listed => decide (Region.ready md ops listed = [i, j]) && Nat.blt i m && Nat.blt j m && ordT md ops g m r (listed.setIfInBounds i true) && ordT md ops g m u (listed.setIfInBounds j true)
def treeB (md : Region.Mode) (ops : Array Oper) (m : Nat) (ord : OT) : Bool :=
  decide (m < ops.size) && ord.deep m && Region.sinkB md ops m && Region.chainB md ops m && ordT md ops (ops.size - m) m ord (Array.replicate ops.size false)
section
variable {P : Program} {G : Nat → Prop} {n : Nat}
def EffS (P : Program) (G : Nat → Prop) (n : Nat) (Inv : List Own → Prop) (ops : Array Oper) (i : Nat) (env : List (Nat × AV)) (W : List Own) (K : List (Nat × AV) → List Own → Prop) : Prop :=
  ∃ o, ops[i]? = some o ∧ o.guard = none ∧ ∃ (α : Type) (ok : α → Prop) (W' : α → List Own) (V : α → AV), OpE P G n W ops o (getv · env) ok W' V ∧ (∀ a, ok a → Inv (W' a)) ∧ ∀ a, ok a → K (putv o.dst (V a) env) (W' a)
def BT (P : Program) (G : Nat → Prop) (n : Nat) (Inv : List Own → Prop) (ops : Array Oper) : OT → List (Nat × AV) → List Own → (List (Nat × AV) → List Own → Prop) → Prop
  | .nil, env, W, K => K env W
  | .pure i r, env, W, K => ∃ o, ops[i]? = some o ∧ ∃ x, (∀ W', Inv W' → OpA P G n W' ops o (getv · env) x) ∧ BT P G n Inv ops r (putv o.dst x env) W K
  | .e1 i r, env, W, K => EffS P G n Inv ops i env W fun env' W' => BT P G n Inv ops r env' W' K
  | .e2 i r j u, env, W, K => (EffS P G n Inv ops i env W fun env' W' => BT P G n Inv ops r env' W' K) ∧ EffS P G n Inv ops j env W fun env' W' => BT P G n Inv ops u env' W' K
theorem wpAnyB_ot {Inv : List Own → Prop} {md : Region.Mode} {ops : Array Oper} {m g : Nat} {K : List (Nat × AV) → List Own → Prop} (hs : Region.sinkB md ops m = true) (hc : Region.chainB md ops m = true) (hn : m < ops.size) :
    ∀ (l : OT) (f : Nat) (listed : Array Bool) (env : List (Nat × AV)) (W : List Own), l.deep f = true → HeadInv md ops m listed → Inv W →
    ordT md ops g m l listed = true → BT P G n Inv ops l env W K →
    wpAnyB P G n Inv md ops m (fun listed' E W => Region.seqB md ops g m listed' = true ∧ ∃ env', E = (getv · env') ∧ K env' W) f listed (getv · env) W
  | .nil, 0, listed, env, W, _, _, _, hB, h => ⟨hB, env, rfl, h⟩
  | .nil, _ + 1, _, _, _, hdp, _, _, _, _ => by cases hdp
  | .pure _ _, 0, _, _, _, hdp, _, _, _, _ => by cases hdp
  | .e1 _ _, 0, _, _, _, hdp, _, _, _, _ => by cases hdp
  | .e2 _ _ _ _, 0, _, _, _, hdp, _, _, _, _ => by cases hdp
  | .pure i l, f + 1, listed, env, W, hdp, inv, hW, hB, h => by
    simp only [ordT, Bool.and_eq_true] at hB
    obtain ⟨⟨⟨hr, hf⟩, hlt⟩, hB'⟩ := hB
    have hkn : i < m := Nat.blt_eq.mp hlt
    have hr' : i ∈ Region.ready md ops listed := by simpa using hr
    obtain ⟨o, ho, x, hx, hK⟩ := h
    refine wpAnyB_first ho hs hc hn hkn (fun listed' E W hL => seqB_ready hL.1) f listed _ W inv hW (Region.free_spec ho hf) hr' hx ?_
    rw [← getv_putv]
    exact wpAnyB_ot hs hc hn l f _ _ W hdp (inv.set hr' hkn) hW hB' hK
  | .e1 i l, f + 1, listed, env, W, hdp, inv, hW, hB, h => by
    simp only [ordT, Bool.and_eq_true, decide_eq_true_eq] at hB
    obtain ⟨⟨hr, hlt⟩, hB'⟩ := hB
    have hkn : i < m := Nat.blt_eq.mp hlt
    have hr' : i ∈ Region.ready md ops listed := by rw [hr]; simp
    obtain ⟨o, ho, hg, α, ok, W', V, h1, h2, h3⟩ := h
    refine ⟨fun h0 => (by rw [h0] at hr'; cases hr'), fun j hj => ?_⟩
    rw [hr] at hj
    have : j = i := by simpa using hj
    subst this
    refine ⟨hkn, ?_⟩
    unfold qB
    simp only [ho]
    refine .inr ⟨hg, α, ok, W', V, h1, h2, fun a ha => ?_⟩
    rw [← getv_putv]
    exact wpAnyB_ot hs hc hn l f _ _ (W' a) hdp (inv.set hr' hkn) (h2 a ha) hB' (h3 a ha)
  | .e2 i l k u, f + 1, listed, env, W, hdp, inv, hW, hB, h => by
    simp only [ordT, Bool.and_eq_true, decide_eq_true_eq] at hB
    obtain ⟨⟨⟨⟨hr, hlt⟩, hlt2⟩, hB'⟩, hB2⟩ := hB
    simp only [OT.deep, Bool.and_eq_true] at hdp
    have hkn : i < m := Nat.blt_eq.mp hlt
    have hkn2 : k < m := Nat.blt_eq.mp hlt2
    have hr' : i ∈ Region.ready md ops listed := by rw [hr]; simp
    have hr2 : k ∈ Region.ready md ops listed := by rw [hr]; simp
    obtain ⟨⟨o, ho, hg, α, ok, W', V, h1, h2, h3⟩, ⟨o', ho', hg', α', ok', W'', V', h1', h2', h3'⟩⟩ := h
    refine ⟨fun h0 => (by rw [h0] at hr'; cases hr'), fun j hj => ?_⟩
    rw [hr] at hj
    simp only [List.mem_cons, List.not_mem_nil, or_false] at hj
    rcases hj with hj | hj
    · subst hj
      refine ⟨hkn, ?_⟩
      unfold qB
      simp only [ho]
      refine .inr ⟨hg, α, ok, W', V, h1, h2, fun a ha => ?_⟩
      rw [← getv_putv]
      exact wpAnyB_ot hs hc hn l f _ _ (W' a) hdp.1 (inv.set hr' hkn) (h2 a ha) hB' (h3 a ha)
    · subst hj
      refine ⟨hkn2, ?_⟩
      unfold qB
      simp only [ho']
      refine .inr ⟨hg', α', ok', W'', V', h1', h2', fun a ha => ?_⟩
      rw [← getv_putv]
      exact wpAnyB_ot hs hc hn u f _ _ (W'' a) hdp.2 (inv.set hr2 hkn2) (h2' a ha) hB2 (h3' a ha)
theorem awp_region_tree {id : Nat} {l : List Oper} {Q : Exit → AState → Prop} {env : List (Nat × AV)} {own : List Own} (base : List Own) (m : Nat) (ord : OT) (hm : P.follows .mixedOrders = true) (hB : treeB .any l.toArray m ord = true) (hd : dstOk n l = true) (hb : InvX base own)
    (h : BT P G n (InvX base) l.toArray ord env own (fun env' W => ASeq P G n l.toArray (l.drop m) ⟨W, env'⟩ (Q .normal))) : AWP P G n (.region id l.toArray true) Q ⟨own, env⟩ := fun w0 R0 R a w ⟨h1, h2, h3, h4⟩ => by
  simp only [treeB, Bool.and_eq_true, decide_eq_true_eq] at hB
  obtain ⟨⟨⟨⟨hn, hdp⟩, hs⟩, hc⟩, hlex⟩ := hB
  have hn' : m < l.length := by simpa using hn
  have hdl : (l.drop m).length = l.toArray.size - m := by simp
  have inv0 : HeadInv .any l.toArray m (Array.replicate l.toArray.size false) :=
    ⟨by simp, fun j oj _ hl => (by rw [getD_replicate_false] at hl; cases hl), fun t _ ht => getD_in (by simpa using ht) (getD_replicate_false _ _)⟩
  have H := wpAnyB_ot (g := l.toArray.size - m) hs hc hn ord m _ env own hdp inv0 hb hlex h
  refine wp_region_any hm ?_
  have := wpAny_of_B (w0 := w0) (R0 := R0) (R00 := R) (g := l.toArray.size - m) (Q' := fun e a' w' => ∃ s' R', Q e s' ∧ RSub R R' ∧ St G n w0 R0 s' R' a' w') (fun i o ho d e => dstOk_spec hd i o (by simpa using ho) d e) (fun listed E W R' a' w' g1 g2 g3 g4 g5 hL => by
    obtain ⟨hL1, env', rfl, hL2⟩ := hL
    have := wpAny_of_seq (P := P) (md := .any) (Q' := fun e a' w' => ∃ s' R', Q e s' ∧ RSub R R' ∧ St G n w0 R0 s' R' a' w') (l.drop m) m listed a' w' (fun j => by simp [List.getElem?_drop]) (by rw [hdl]; exact hL1)
      (wpList_of_seq (R00 := R) (K := Q .normal) (fun s' R' a w q r1 r2 => ⟨s', R', q, r1, r2⟩) _ (⟨W, env'⟩ : AState) R' a' w' g1 ⟨g2, g3, g4, g5⟩ hL2)
    rwa [hdl] at this) _ _ _ own R a _ (RSub.refl _) (core_drew h1) h2 h3 h4 H
  rw [show m + (l.toArray.size - m) = l.toArray.size by omega] at this
  exact this
section
variable {ops : Array Oper} {i j : Nat} {o : Oper} {r u : OT} {env : List (Nat × AV)} {W : List Own} {base : List Own} {K : List (Nat × AV) → List Own → Prop} {d : Nat} {x : AV}
theorem bt_nil {Inv : List Own → Prop} (h : K env W) : BT P G n Inv ops .nil env W K := h
theorem bt_plain (ho : ops[i]? = some o) (hg : o.guard = none) (hd : o.dst = some d) (h : ∀ ext, OpW P G n (base ++ ext) o (getv · env) x) (k : BT P G n (InvX base) ops r ((d, x) :: env) W K) : BT P G n (InvX base) ops (.pure i r) env W K :=
  ⟨o, ho, x, fun W' ⟨ext, e⟩ => by subst e; exact opA_plain hg (h ext), by rw [hd]; exact k⟩
theorem bt_grd {c : Bool} (ho : ops[i]? = some o) (hd : o.dst = some d) (hg : GuardIs ops o (getv · env) c) (h : c = true → ∀ ext, OpW P G n (base ++ ext) o (getv · env) x) (k : BT P G n (InvX base) ops r ((d, AV.whn c x) :: env) W K) : BT P G n (InvX base) ops (.pure i r) env W K :=
  ⟨o, ho, _, fun W' ⟨ext, e⟩ => by subst e; exact opA_grd hg fun hc => h hc ext, by rw [hd]; exact k⟩
theorem bt_e1 {Inv : List Own → Prop} (h : EffS P G n Inv ops i env W fun env' W' => BT P G n Inv ops r env' W' K) : BT P G n Inv ops (.e1 i r) env W K := h
theorem bt_e2 {Inv : List Own → Prop} (h : EffS P G n Inv ops i env W fun env' W' => BT P G n Inv ops r env' W' K) (k : EffS P G n Inv ops j env W fun env' W' => BT P G n Inv ops u env' W' K) : BT P G n Inv ops (.e2 i r j u) env W K := ⟨h, k⟩
theorem eff_s0 {Inv : List Own → Prop} {α : Type} {ok : α → Prop} {W' : α → List Own} {V : α → AV} (ho : ops[i]? = some o) (hg : o.guard = none) (hd : o.dst = none) (h : OpE P G n W ops o (getv · env) ok W' V) (hi : ∀ a, ok a → Inv (W' a)) (k : ∀ a, ok a → K env (W' a)) : EffS P G n Inv ops i env W K :=
  ⟨o, ho, hg, α, ok, W', V, h, hi, fun a ha => by rw [hd]; exact k a ha⟩
theorem eff_s {Inv : List Own → Prop} {α : Type} {ok : α → Prop} {W' : α → List Own} {V : α → AV} (ho : ops[i]? = some o) (hg : o.guard = none) (hd : o.dst = some d) (h : OpE P G n W ops o (getv · env) ok W' V) (hi : ∀ a, ok a → Inv (W' a)) (k : ∀ a, ok a → K ((d, V a) :: env) (W' a)) : EffS P G n Inv ops i env W K :=
  ⟨o, ho, hg, α, ok, W', V, h, hi, fun a ha => by rw [hd]; exact k a ha⟩
end
end
theorem flatC_nil : ∀ c ∈ ([] : List AV), Flat c := fun c h => by simp at h
theorem flatC_cons {x : AV} {xs : List AV} (h : Flat x) (k : ∀ c ∈ xs, Flat c) : ∀ c ∈ x :: xs, Flat c := fun c hc => by
  rcases List.mem_cons.1 hc with e | e
  · subst e; exact h
  · exact k c e
section
variable {T X : Type} {cs : T → List AV} {ocs : T → X → List AV} {ow : T → X → List Own}
def nrows (ocs : T → X → List AV) (l : List T) (xs : List X) : List (List AV) := List.zipWith ocs l xs
def nin (ow : T → X → List Own) (l : List T) (xs : List X) : List Own := (List.zipWith ow l xs).flatten
theorem nrows_len {l : List T} {xs : List X} (h : xs.length = l.length) : (nrows ocs l xs).length = l.length := by unfold nrows; rw [List.length_zipWith]; omega
theorem nrows_get {l : List T} {xs : List X} {i : Nat} {p : T} {x : X} (hp : l[i]? = some p) (hx : xs[i]? = some x) : (nrows ocs l xs)[i]? = some (ocs p x) := by
  unfold nrows; rw [List.getElem?_zipWith, hp, hx]
theorem nrows_snoc {l : List T} {xs : List X} {p : T} {x : X} (h : xs.length = l.length) : nrows ocs (l ++ [p]) (xs ++ [x]) = nrows ocs l xs ++ [ocs p x] := by
  unfold nrows; rw [List.zipWith_append h.symm]; rfl
theorem nin_snoc {l : List T} {xs : List X} {p : T} {x : X} (h : xs.length = l.length) : (ow p x ++ nin ow l xs).Perm (nin ow (l ++ [p]) (xs ++ [x])) := by
  unfold nin; rw [List.zipWith_append h.symm, List.flatten_append]
  refine List.perm_append_comm.trans ?_
  simp
theorem take_snoc {l : List T} {i : Nat} {p : T} (h : l[i]? = some p) : l.take (i + 1) = l.take i ++ [p] := by rw [List.take_add_one, h]; rfl
theorem nin_step {l : List T} {xs : List X} {p : T} {x : X} {i : Nat} (hp : l[i]? = some p) (h : xs.length = i) : (ow p x ++ nin ow (l.take i) xs).Perm (nin ow (l.take (i + 1)) (xs ++ [x])) := by
  have hi := (List.getElem?_eq_some_iff.1 hp).1
  rw [take_snoc hp]
  exact nin_snoc (by rw [h, List.length_take]; omega)
theorem nrows_step {l : List T} {xs : List X} {p : T} {x : X} {i : Nat} (hp : l[i]? = some p) (h : xs.length = i) : nrows ocs (l.take i) xs ++ [ocs p x] = nrows ocs (l.take (i + 1)) (xs ++ [x]) := by
  have hi := (List.getElem?_eq_some_iff.1 hp).1
  rw [take_snoc hp, nrows_snoc (by rw [h, List.length_take]; omega)]
theorem nfill_step {l : List T} {xs : List X} {p : T} {x : X} {i : Nat} {z : List AV} (hp : l[i]? = some p) (h : xs.length = i) : (nrows ocs (l.take i) xs ++ List.replicate (l.length - i) z).set i (ocs p x) = nrows ocs (l.take (i + 1)) (xs ++ [x]) ++ List.replicate (l.length - (i + 1)) z := by
  have hi := (List.getElem?_eq_some_iff.1 hp).1
  have h1 : (nrows ocs (l.take i) xs).length = i := by rw [nrows_len (by rw [h, List.length_take]; omega), List.length_take]; omega
  rw [List.set_append_right _ _ (by omega), h1, Nat.sub_self, show l.length - i = (l.length - (i + 1)) + 1 by omega, List.replicate_succ, List.set_cons_zero, ← nrows_step hp h]
  simp
theorem nfill_len {l : List T} {xs : List X} {i : Nat} {z : List AV} (hi : i ≤ l.length) (h : xs.length = i) : (nrows ocs (l.take i) xs ++ List.replicate (l.length - i) z).length = l.length := by
  rw [List.length_append, List.length_replicate, nrows_len (by rw [h, List.length_take]; omega), List.length_take]; omega
theorem nin_get {p : T} {x : X} : ∀ {l : List T} {xs : List X} {i : Nat}, l[i]? = some p → xs[i]? = some x → (nin ow l xs).Perm (ow p x ++ nin ow (l.eraseIdx i) (xs.eraseIdx i))
  | [], _, _, h, _ => by simp at h
  | _ :: _, [], _, _, h => by simp at h
  | q :: l, y :: xs, 0, hp, hx => by simp at hp hx; subst hp; subst hx; exact List.Perm.refl _
  | q :: l, y :: xs, i + 1, hp, hx => by
    have ih := nin_get (l := l) (xs := xs) (i := i) (by simpa using hp) (by simpa using hx)
    unfold nin at *
    simp only [List.zipWith_cons_cons, List.flatten_cons, List.eraseIdx_cons_succ]
    refine (List.Perm.append_left (ow q y) ih).trans ?_
    rw [← List.append_assoc, ← List.append_assoc]
    exact List.Perm.append_right _ List.perm_append_comm
theorem nin_set {p p' : T} {x : X} {l : List T} {xs : List X} {i : Nat} (hp : l[i]? = some p) (hx : xs[i]? = some x) : (ow p' x ++ nin ow (l.eraseIdx i) (xs.eraseIdx i)).Perm (nin ow (l.set i p') xs) := by
  have hi := (List.getElem?_eq_some_iff.1 hp).1
  have h := nin_get (ow := ow) (l := l.set i p') (xs := xs) (i := i) (p := p') (x := x) (List.getElem?_set_self hi) hx
  rw [List.eraseIdx_set_eq] at h
  exact h.symm
theorem nrows_set {p p' : T} {x : X} : ∀ {l : List T} {xs : List X} {i : Nat}, l[i]? = some p → xs[i]? = some x → (nrows ocs l xs).set i (ocs p' x) = nrows ocs (l.set i p') xs
  | [], _, _, h, _ => by simp at h
  | _ :: _, [], _, _, h => by simp at h
  | q :: l, y :: xs, 0, hp, hx => by simp at hx; subst hx; rfl
  | q :: l, y :: xs, i + 1, hp, hx => by
    have ih := nrows_set (p := p) (p' := p') (x := x) (l := l) (xs := xs) (i := i) (by simpa using hp) (by simpa using hx)
    unfold nrows at *
    simp only [List.zipWith_cons_cons, List.set_cons_succ]
    rw [ih]
theorem nrows_split {p : T} {x : X} : ∀ {l : List T} {xs : List X} {i : Nat}, l[i]? = some p → xs[i]? = some x → nrows ocs l xs = nrows ocs (l.take i) (xs.take i) ++ ocs p x :: nrows ocs (l.drop (i + 1)) (xs.drop (i + 1))
  | [], _, _, h, _ => by simp at h
  | _ :: _, [], _, _, h => by simp at h
  | q :: l, y :: xs, 0, hp, hx => by simp at hp hx; subst hp; subst hx; rfl
  | q :: l, y :: xs, i + 1, hp, hx => by
    have ih := nrows_split (p := p) (x := x) (l := l) (xs := xs) (i := i) (by simpa using hp) (by simpa using hx)
    unfold nrows at *
    simp only [List.zipWith_cons_cons, List.take_succ_cons, List.drop_succ_cons, List.cons_append]
    rw [ih]
theorem nrows_join {p p' : T} {x : X} {l : List T} {xs : List X} {i : Nat} (hp : l[i]? = some p) (hx : xs[i]? = some x) : nrows ocs (l.take i) (xs.take i) ++ ocs p' x :: nrows ocs (l.drop (i + 1)) (xs.drop (i + 1)) = nrows ocs (l.set i p') xs := by
  have hi := (List.getElem?_eq_some_iff.1 hp).1
  rw [nrows_split (l := l.set i p') (i := i) (p := p') (x := x) (List.getElem?_set_self hi) hx, List.take_set_of_le (Nat.le_refl _), List.drop_set_of_lt (by omega)]
theorem nrows_tlen {p : T} {x : X} {l : List T} {xs : List X} {i : Nat} (hp : l[i]? = some p) (hx : xs[i]? = some x) : (nrows ocs (l.take i) (xs.take i)).length = i := by
  have h1 := (List.getElem?_eq_some_iff.1 hp).1
  have h2 := (List.getElem?_eq_some_iff.1 hx).1
  unfold nrows; rw [List.length_zipWith, List.length_take, List.length_take]; omega
theorem nrows_jlen {p : T} {x : X} {l : List T} {xs : List X} {i : Nat} {r : List AV} (hp : l[i]? = some p) (hx : xs[i]? = some x) (hl : xs.length = l.length) : (nrows ocs (l.take i) (xs.take i) ++ r :: nrows ocs (l.drop (i + 1)) (xs.drop (i + 1))).length = l.length := by
  have h1 := (List.getElem?_eq_some_iff.1 hp).1
  rw [List.length_append, nrows_tlen hp hx, List.length_cons]
  unfold nrows; rw [List.length_zipWith, List.length_drop, List.length_drop]; omega
theorem nin_flat (h : ∀ p x, ∀ q ∈ ow p x, FlatO q) (l : List T) (xs : List X) : ∀ q ∈ nin ow l xs, FlatO q := fun q hq => by
  unfold nin at hq
  obtain ⟨m, hm, hqm⟩ := List.mem_flatten.1 hq
  obtain ⟨i, hi⟩ := List.getElem?_of_mem hm
  rw [List.getElem?_zipWith] at hi
  split at hi
  · injection hi with hi; subst hi; exact h _ _ q hqm
  · cases hi
theorem nrows_flat (h : ∀ p x, ∀ c ∈ ocs p x, Flat c) (l : List T) (xs : List X) : ∀ e ∈ nrows ocs l xs, ∀ c ∈ e, Flat c := fun e he => by
  unfold nrows at he
  obtain ⟨i, hi⟩ := List.getElem?_of_mem he
  rw [List.getElem?_zipWith] at hi
  split at hi
  · injection hi with hi; subst hi; exact h _ _
  · cases hi
theorem nin_mem {p : T} {x : X} {l : List T} {xs : List X} {i : Nat} (hp : l[i]? = some p) (hx : xs[i]? = some x) : ∀ o ∈ ow p x, o ∈ nin ow l xs := fun o ho => (nin_get (ow := ow) (i := i) hp hx).mem_iff.2 (List.mem_append_left _ ho)
theorem nin_lend {own : List Own} {v : Value} {t : TypeId} {sz : Nat} {l : List T} {xs : List X} (hlc : ∀ p x, (∀ o ∈ ow p x, o ∈ own) → LendC own (ocs p x) (cs p)) (hlen : xs.length = l.length) (i : Nat) (hi : own[i]? = some (.arr v t sz (nrows ocs l xs))) (hm : ∀ o ∈ nin ow l xs, o ∈ own) : LendTo own (AV.is v) (AV.list sz (l.map cs)) :=
  lt_arr (List.mem_of_getElem? hi) ⟨by rw [nrows_len hlen, List.length_map], fun j a b ha hb => by
    rw [List.getElem?_map] at hb
    cases hp : l[j]? with
    | none => rw [hp] at hb; cases hb
    | some p =>
      rw [hp] at hb
      have hj := (List.getElem?_eq_some_iff.1 hp).1
      obtain ⟨x, hx⟩ : ∃ x, xs[j]? = some x := ⟨_, List.getElem?_eq_getElem (by omega)⟩
      rw [nrows_get hp hx] at ha
      injection ha with ha; injection hb with hb; subst ha; subst hb
      exact hlc p x fun o ho => hm o (nin_mem hp hx o ho)⟩
end
section
variable {T : Type}
def marksN (mk : T → Int → T) (mn : T → Int → Int) : List T → Int → List T
  | [], _ => []
  | p :: l, k => mk p k :: marksN mk mn l (mn p k)
def countN (mn : T → Int → Int) : List T → Int → Int
  | [], k => k
  | p :: l, k => countN mn l (mn p k)
variable {mk : T → Int → T} {mn : T → Int → Int}
theorem marksN_len : ∀ (l : List T) (k : Int), (marksN mk mn l k).length = l.length
  | [], _ => rfl
  | p :: l, k => by unfold marksN; simp [marksN_len l]
theorem countN_snoc {p : T} : ∀ {l : List T} {i : Nat} {k : Int}, l[i]? = some p → countN mn (l.take (i + 1)) k = mn p (countN mn (l.take i) k)
  | [], _, _, h => by simp at h
  | q :: l, 0, k, h => by simp at h; subst h; rfl
  | q :: l, i + 1, k, h => by
    simp only [List.take_succ_cons]
    unfold countN
    exact countN_snoc (by simpa using h)
theorem marksN_snoc {p : T} : ∀ {l : List T} {i : Nat} {k : Int}, l[i]? = some p → marksN mk mn (l.take (i + 1)) k = marksN mk mn (l.take i) k ++ [mk p (countN mn (l.take i) k)]
  | [], _, _, h => by simp at h
  | q :: l, 0, k, h => by simp at h; subst h; rfl
  | q :: l, i + 1, k, h => by
    simp only [List.take_succ_cons]
    unfold marksN countN
    rw [marksN_snoc (by simpa using h)]; rfl
theorem marksN_get {p : T} : ∀ {l : List T} {i : Nat} {k : Int}, l[i]? = some p → (marksN mk mn l k)[i]? = some (mk p (countN mn (l.take i) k))
  | [], _, _, h => by simp at h
  | q :: l, 0, k, h => by simp at h; subst h; rfl
  | q :: l, i + 1, k, h => by
    simp only [List.take_succ_cons]
    unfold marksN countN
    simpa using marksN_get (l := l) (i := i) (k := mn q k) (by simpa using h)
theorem countN_le (hm : ∀ p k, k ≤ mn p k) : ∀ (l : List T) (k : Int), k ≤ countN mn l k
  | [], k => Int.le_refl _
  | p :: l, k => Int.le_trans (hm p k) (countN_le hm l _)
theorem countN_len (hm : ∀ p k, k + 1 ≤ mn p k) : ∀ (l : List T) (k : Int), k + l.length ≤ countN mn l k
  | [], k => by simp [countN]
  | p :: l, k => by
    have h1 := countN_len hm l (mn p k)
    have h2 := hm p k
    unfold countN
    simp only [List.length_cons]
    omega
theorem countN_take (hm : ∀ p k, k ≤ mn p k) : ∀ (l : List T) (i : Nat) (k : Int), k ≤ countN mn (l.take i) k ∧ countN mn (l.take i) k ≤ countN mn l k
  | [], i, k => by simp [countN]
  | p :: l, 0, k => by simp only [List.take_zero]; exact ⟨Int.le_refl _, countN_le hm _ _⟩
  | p :: l, i + 1, k => by
    simp only [List.take_succ_cons]
    unfold countN
    have h1 := countN_take hm l i (mn p k)
    exact ⟨Int.le_trans (hm p k) h1.1, h1.2⟩
/-- What stands while the marks go through the list. -/
def midN (mk : T → Int → T) (mn : T → Int → Int) (l : List T) (k : Int) (i : Nat) : List T := marksN mk mn (l.take i) k ++ l.drop i
theorem midN_zero {l : List T} {k : Int} : midN mk mn l k 0 = l := by unfold midN; simp [marksN]
theorem midN_end {l : List T} {k : Int} {i : Nat} (h : l.length ≤ i) : midN mk mn l k i = marksN mk mn l k := by unfold midN; rw [List.take_of_length_le h, List.drop_eq_nil_of_le h, List.append_nil]
theorem midN_get {l : List T} {k : Int} {i : Nat} {p : T} (h : l[i]? = some p) : (midN mk mn l k i)[i]? = some p := by
  have hi := (List.getElem?_eq_some_iff.1 h).1
  unfold midN
  rw [List.getElem?_append_right (by rw [marksN_len, List.length_take]; omega), marksN_len, List.length_take, Nat.min_eq_left (by omega), Nat.sub_self, List.getElem?_drop]
  simpa using h
theorem midN_len {l : List T} {k : Int} {i : Nat} (h : i ≤ l.length) : (midN mk mn l k i).length = l.length := by
  unfold midN; rw [List.length_append, marksN_len, List.length_take, List.length_drop]; omega
theorem midN_step {l : List T} {k : Int} {i : Nat} {p : T} (h : l[i]? = some p) : (midN mk mn l k i).set i (mk p (countN mn (l.take i) k)) = midN mk mn l k (i + 1) := by
  have hi := (List.getElem?_eq_some_iff.1 h).1
  unfold midN
  rw [List.set_append_right _ _ (by rw [marksN_len, List.length_take]; omega), marksN_len, List.length_take, Nat.min_eq_left (by omega), Nat.sub_self, drop_some h, List.set_cons_zero, marksN_snoc h]
  simp
end
end Go.AV
