/- Texts of the claim, part 3. -/
import Derived.Laws.BytesArg
import Derived.Test.YtmlmmgeadombbaaGreatDoorRows
import Derived.Shelf.Strconv.Itoa3
import Derived.Test.YtmlmmgeadombbaaGreatDoorProg
import Derived.Lib.Split
import Derived.Lib.SplitLaws
import Derived.Lib.ConvBytes
import Derived.WideLaws
import Derived.SizedLaws
import Derived.Shelf.Strings.Split
import Derived.Shelf.Strings.Cut
import Derived.Shelf.Strings.Prefix
import Derived.Shelf.Strconv.ErrVarAll
import Derived.Shelf.Vars
import Derived.Stop.LaidErr
import Derived.Shelf.Strings.OnBuilder
import Derived.Test.YtmlmmgeadombbaaGreatDoorZOpsTexts2

set_option linter.unusedVariables false
set_option linter.unusedSimpArgs false
namespace Go.AV
section
variable {P : Program} {G : Nat → Prop} {n : Nat} {own : List Own}
theorem le_tail {t : List Own} {env : List (Nat × AV)} (k : Nat) (h : (own.drop k).Perm t) : Le G n ⟨own, env⟩ ⟨own.take k ++ t, env⟩ :=
  le_perm (by
    have := List.Perm.append_left (own.take k) h
    rw [List.take_append_drop] at this
    exact this)
theorem le_cut {t r : List Own} {env : List (Nat × AV)} (k : Nat) (h : (own.drop k).Perm (t ++ r)) : Le G n ⟨own, env⟩ ⟨own.take k ++ t, env⟩ := fun w0 R0 R a w hs => by
  obtain ⟨R', h1, h2, h3⟩ := le_tail (env := env) k h w0 R0 R a w hs
  exact ⟨R', h1, core_left (b := r) (by rw [List.append_assoc]; exact h2), h3⟩
theorem le_mid {X Y NT : List Own} {env : List (Nat × AV)} (j m : Nat) (h : (X.drop j ++ Y.drop m).Perm NT) : Le G n ⟨X ++ Y, env⟩ ⟨X.take j ++ (Y.take m ++ NT), env⟩ :=
  le_perm (by
    have h1 : (X ++ Y).Perm (X.take j ++ (Y.take m ++ (X.drop j ++ Y.drop m))) := by
      conv => lhs; rw [← List.take_append_drop j X, ← List.take_append_drop m Y]
      rw [List.append_assoc]
      refine List.Perm.append_left _ ?_
      rw [← List.append_assoc, ← List.append_assoc]
      exact List.Perm.append_right _ List.perm_append_comm
    exact h1.trans (List.Perm.append_left _ (List.Perm.append_left _ h)))
theorem perm_nil {t : List Own} : t.Perm (t ++ []) := by rw [List.append_nil]
theorem perm_lin {t : List Own} : (t ++ []).Perm t := by rw [List.append_nil]
theorem pick_perm' {sel rest : List Own} {is : List Nat} (h : pick own is = (sel, rest)) : own.Perm (sel ++ rest) := by
  induction is generalizing own sel rest with
  | nil => unfold pick at h; injection h with h1 h2; subst h1; subst h2; exact List.Perm.refl _
  | cons i is ih =>
    unfold pick at h
    cases hi : own[i]? with
    | none => rw [hi] at h; injection h with h1 h2; subst h1; subst h2; exact List.Perm.refl _
    | some x =>
      rw [hi] at h
      injection h with h1 h2; subst h1; subst h2
      exact (perm_erase hi).trans (List.Perm.cons x (ih rfl))
section
variable {o : Oper} {E : EnvF}
theorem opE_make {ops : Array Oper} {t e : TypeId} {p q : Operand} {sz by' m : Nat} {inf : TypeInfo} {z : Value} (ho : o.op = .makeSlice t p q)
    (ht : P.underlying t = some (.slice e)) (hinf : P.info? e = some inf) (hz : inf.zero = some z) (hsz : inf.size = sz) (hby : inf.bytes = by') (hzs : z.cells.size = sz) (hpos : Nat.ble 1 sz = true) (h1' : z.cells.toList.all Value.oneCell' = true) (hp : Ev E p (AV.int m)) (hq : Ev E q (AV.int m))
    (hlen : m * by' ≤ 281474976710656) (hlen2 : m ≤ 281474976710656) : OpE P G n own ops o E (fun _ : Value => True) (fun v' => own ++ [.arr v' e sz (List.replicate m (z.cells.toList.map zeroA))]) (fun v' => AV.is v') :=
  fun w0 R0 R a w h1 h3 h2 => by
    have e1 : a.eval p = .int .i64 m := ev_lookA (ops := ops) hp (by simp [ho, Op.operands]) h2
    have e2 : a.eval q = .int .i64 m := ev_lookA (ops := ops) hq (by simp [ho, Op.operands]) h2
    have hb1 := Nat.le_of_ble_eq_true hpos
    have hr := run_make (P := P) w t e inf z ht hinf hz .i64 .i64 (m : Int) (m : Int) (by omega) (by omega) (by rw [hby]; have h9 : ((m * by' : Nat) : Int) ≤ 281474976710656 := by omega
                                                                                                                rw [Int.natCast_mul] at h9; rw [Int.mul_comm]; exact h9) (by omega)
    simp only [Int.toNat_natCast] at hr
    have hex : (execOp a.eval o).run P w = .ok (.value (.slice (some ⟨w.heap.size, 0, none⟩) m m)) (w.alloc (.cells (madeCells z.cells (m * inf.size)) e)) := by
      simp only [execOp, ho, e1, e2, hr, Sem.run_bind, Sem.run_pure, Result.andThen_ok]
    unfold Oper.wp
    rw [hex, Oper.upon_value]
    have hms : (madeCells z.cells (m * inf.size)).size = m * sz := by rw [size_madeCells, hsz]
    refine ⟨_, _, R, trivial, rfl, core_perm (core_arr_new h1 (by simp) (Nat.le_refl _) (by unfold maxLen; omega) hms (fun x hx => ?_) ⟨?_, fun j v x hv hx => ?_⟩) (List.perm_append_comm (l₁ := [_])), RSub.refl _, rfl⟩
    · rw [(List.mem_replicate.1 hx).2]; simp [hzs]
    · rw [flatten_len (sz := sz) (fun x hx => by rw [(List.mem_replicate.1 hx).2]; simp [hzs])]
      simp [hms]
    · have hj : j < m * sz := by
        have := (List.getElem?_eq_some_iff.1 hx).1
        rw [flatten_len (sz := sz) (fun x hx => by rw [(List.mem_replicate.1 hx).2]; simp [hzs])] at this
        simpa using this
      have hjm : j % sz < sz := Nat.mod_lt _ (by omega)
      have hjj : j / sz * sz + j % sz = j := by rw [Nat.mul_comm]; exact Nat.div_add_mod j sz
      have hjd : j / sz < m := Nat.div_lt_of_lt_mul (by rw [Nat.mul_comm]; exact hj)
      have hzj : z.cells.toList[j % sz]? = some (z.cells.toList[j % sz]'(by simp [hzs]; exact hjm)) := List.getElem?_eq_getElem _
      have hx2 := flatten_get (sz := sz) (es := List.replicate m (z.cells.toList.map zeroA)) (fun x hx => by rw [(List.mem_replicate.1 hx).2]; simp [hzs]) (i := j / sz) (e := z.cells.toList.map zeroA) (by rw [List.getElem?_replicate, if_pos hjd]) (k := j % sz) (x := zeroA (z.cells.toList[j % sz]'(by simp [hzs]; exact hjm))) (by rw [List.getElem?_map, hzj]; rfl)
      rw [hjj, hx] at hx2
      injection hx2 with hx2
      rw [List.getElem?_take_of_lt hj] at hv
      have hv2 : v = z.cells.toList[j % sz]'(by simp [hzs]; exact hjm) := by
        unfold madeCells at hv
        rw [hsz] at hv
        simp only [Array.toList_map, Array.toList_range, List.getElem?_map, List.getElem?_range hj, Option.map_some, Option.some.injEq] at hv
        rw [← hv, hzs, getElem!_pos z.cells _ (by rw [hzs]; exact hjm)]
        simp
      rw [hx2, hv2]
      exact ⟨zeroA_den R _, List.all_eq_true.1 h1' _ (by simp)⟩
end
section
variable {α : Type} {ok : α → Prop} {O : α → List Own} {V : α → AV} {o : Oper}
theorem sq_callGP {ops : Array Oper} {rs : List Oper} {env : List (Nat × AV)} {K : AState → Prop} {d : Nat} {f : FuncId} {args : Array Operand} {tys : Array TypeId} {ps : List Operand} {xs : List AV} {sel rest : List Own} {own' : α → List Own} (hg : o.guard = none) (ho : o.op = .call { callee := .value (.func f), args := args, argTypes := tys }) (hd : o.dst = some d) (hn : Nat.blt d n = true)
    (hc : ∀ (vs : Array Value) (w : World), (callFunc f vs).run P w = .ok (.enter f vs) w) (hps : args.toList = ps) (hp : own.Perm (sel ++ rest)) (hs : GSpec P f xs sel ok O V) (he : EvL (getv · env) ps xs) (hq : ∀ a, (O a ++ rest).Perm (own' a))
    (k : ∀ a, ok a → ASeq P G n ops rs ⟨own' a, (d, V a) :: env⟩ K) : ASeq P G n ops (o :: rs) ⟨own, env⟩ K :=
  opS_run hg fun w0 R0 R a w ⟨h1, h2, h3, h4⟩ => by
    have hcore := core_perm h1 hp
    have hden := evl_use (o := o) (fun t _ y hy => h2 t y hy) he fun p hp => by simp [ho, Op.operands, Call.operands]; right; rw [← hps] at hp; exact Array.mem_toList_iff.1 hp
    have hrun : (execOp a.eval o).run P w = .ok (.enter f (ps.map a.eval).toArray) w := by
      have hargs : args.map a.eval = (ps.map a.eval).toArray := by rw [← hps]; cases args; simp
      simp only [execOp, ho, resolve, hargs, show a.eval (.func f) = .func (.func f) #[] #[] from rfl]
      simp [Deferred.ofValue, invoke, hc]
    unfold Oper.wp
    rw [hrun, Oper.upon_enter]
    refine (hs R w _ hcore.rle hden (fun q hq => hcore.owned q (List.mem_append_left _ hq)) (core_left hcore).sep).mono fun e w' ⟨x, v, R', e0, e1, e2, e3⟩ => ?_
    subst e1
    have hR := rsub_of hcore.rle e3.rold
    refine ⟨⟨own' x, (d, V x) :: env⟩, R', k x e0, hR, core_perm (core_after hcore e3) (hq x), ?_, by rw [size_put]; exact h3, by rw [defers_put]; exact h4⟩
    rw [hd]
    exact env_put h2 hR (by rw [h3]; exact Nat.blt_eq.mp hn) e2
theorem opE_mid {ops : Array Oper} {E : EnvF} {rest : List Own} (m : Nat) (h : OpE P G n own ops o E ok (fun a => rest ++ O a) V) : OpE P G n own ops o E ok (fun a => rest.take m ++ (O a ++ rest.drop m)) V := fun w0 R0 R a w h1 h2 h3 =>
  Oper.wp_mono2 (fun a' w' ⟨x, v, R', e0, e1, e2, e3, e4⟩ => ⟨x, v, R', e0, e1, core_perm e2 (by
    show (rest ++ O x).Perm (rest.take m ++ (O x ++ rest.drop m))
    conv => lhs; rw [← List.take_append_drop m rest]
    rw [List.append_assoc]
    exact List.Perm.append_left _ List.perm_append_comm), e3, e4⟩) (fun _ _ _ h => h) (h w0 R0 R a w h1 h2 h3)
theorem opE_one {ops : Array Oper} {E : EnvF} {W' : α → List Own} {g : α → Value} {e : TypeId} {sz : Nat} {es : List (List AV)} (i : Nat) (hg : ∀ a, (W' a)[i]? = some (.arr (g a) e sz es)) (h : OpE P G n own ops o E ok W' V) : OpE P G n own ops o E (fun a => ok a ∧ (g a).oneCell' = true) W' V := fun w0 R0 R a w h1 h2 h3 =>
  Oper.wp_mono2 (fun a' w' ⟨x, v, R', e0, e1, e2, e3, e4⟩ => ⟨x, v, R', ⟨e0, own_one (e2.owned _ (List.mem_of_getElem? (hg x)))⟩, e1, e2, e3, e4⟩) (fun _ _ _ h => h) (h w0 R0 R a w h1 h2 h3)
theorem opE_midT {ops : Array Oper} {E : EnvF} {rest : List Own} (m j : Nat) (NT : α → List Own) (hN : ∀ a, ((O a).drop j ++ rest.drop m).Perm (NT a)) (h : OpE P G n own ops o E ok (fun a => rest ++ O a) V) : OpE P G n own ops o E ok (fun a => rest.take m ++ ((O a).take j ++ NT a)) V := fun w0 R0 R a w h1 h2 h3 =>
  Oper.wp_mono2 (fun a' w' ⟨x, v, R', e0, e1, e2, e3, e4⟩ => ⟨x, v, R', e0, e1, core_perm e2 (by
    show (rest ++ O x).Perm (rest.take m ++ ((O x).take j ++ NT x))
    have h5 : (rest ++ O x).Perm (rest.take m ++ ((O x).take j ++ ((O x).drop j ++ rest.drop m))) := by
      conv => lhs; rw [← List.take_append_drop m rest, ← List.take_append_drop j (O x)]
      rw [List.append_assoc]
      refine List.Perm.append_left _ ?_
      refine List.perm_append_comm.trans ?_
      rw [List.append_assoc]
    exact h5.trans (List.Perm.append_left _ (List.Perm.append_left _ (hN x)))), e3, e4⟩) (fun _ _ _ h => h) (h w0 R0 R a w h1 h2 h3)
theorem opE_alloc {ops : Array Oper} {E : EnvF} {t : TypeId} {z : Value} (ho : o.op = .alloc t)
    (hz : ∀ w, (zeroValue t).run P w = .ok z w) (h1' : z.cells.toList.all Value.oneCell' = true) : OpE P G n own ops o E (fun _ : Nat => True) (fun b => own ++ [.box b t (z.cells.toList.map zeroA)]) (fun b => AV.ptr b 0) :=
  fun w0 R0 R a w h1 h3 h2 => by
    have hrun : (execOp a.eval o).run P w = .ok (.value (.pointer (some ⟨w.heap.size, 0, none⟩))) (w.alloc (.cells z.cells.toList.toArray t)) := by
      simp only [execOp, ho, Instr.alloc, newVar, newRow, hz, Array.toArray_toList, Sem.run_bind, Sem.run_pure, Result.andThen_ok, run_newObj, World.alloc_eq]
    unfold Oper.wp
    rw [hrun, Oper.upon_value]
    exact ⟨w.heap.size, _, R, trivial, rfl, core_perm (core_box h1 ⟨by simp, fun i v y hv hy => by
      rw [List.getElem?_map, hv] at hy
      simp at hy; subst hy
      exact ⟨zeroA_den R v, List.all_eq_true.1 h1' v (List.mem_of_getElem? hv)⟩⟩) (List.perm_append_comm (l₁ := [_])), RSub.refl _, rfl⟩
theorem opE_at {ops : Array Oper} {E : EnvF} {W' : α → List Own} (m : Nat) (W2 : α → List Own) (hp : ∀ a, (W' a).Perm (W2 a)) (h : OpE P G n own ops o E ok W' V) : OpE P G n own ops o E ok W2 V := fun w0 R0 R a w h1 h2 h3 =>
  Oper.wp_mono2 (fun a' w' ⟨x, v, R', e0, e1, e2, e3, e4⟩ => ⟨x, v, R', e0, e1, core_perm e2 (hp x), e3, e4⟩) (fun _ _ _ h => h) (h w0 R0 R a w h1 h2 h3)
theorem opE_storeB0 {ops : Array Oper} {E : EnvF} {t t' : TypeId} {p q : Operand} {b : Nat} {cs ys : List AV} {x : AV} (i : Nat) (ho : o.op = .store t p q) (hd : o.dst = none)
    (hp : Ev E p (AV.ptr b 0)) (hq : Ev E q x) (hx : AsCells x ys) (hi : own[i]? = some (.box b t' cs)) (hs : ∀ w, (sizeOf t).run P w = .ok ys.length w) (hl' : Nat.beq ys.length cs.length = true) : OpE P G n own ops o E (fun _ : Unit => True) (fun _ => own.set i (.box b t' ys)) (fun _ => AV.int 0) :=
  fun w0 R0 R a w h1 h3 h2 => by
    have e1 : a.eval p = .pointer (some ⟨b, 0, none⟩) := ev_lookA (ops := ops) hp (by simp [ho, Op.operands]) h2
    have e2 := hx R _ (ev_lookA (ops := ops) hq (by simp [ho, Op.operands]) h2)
    have e := Nat.eq_of_beq_eq_true hl'
    obtain ⟨hR, vs, hb, hdc⟩ := h1.owned _ (List.mem_of_getElem? hi)
    have hsz : (a.eval q).cells.size = ys.length := by rw [← Array.length_toList]; exact e2.1
    have hst := run_storeAt (P := P) (t := t) (off := 0) (u := a.eval q) hb (by rw [hsz]; exact hs w) (by rw [hsz, hdc.1]; omega) (fun u hu => by
      obtain ⟨j, hj⟩ := List.getElem?_of_mem hu
      have hjl : j < ys.length := by rw [← e2.1]; exact (List.getElem?_eq_some_iff.1 hj).1
      exact (e2.2 j u _ hj (List.getElem?_eq_getElem hjl)).2)
    have hrun : (execOp a.eval o).run P w = .ok .skip (w.setRow b (vs.take 0 ++ (a.eval q).cells.toList ++ vs.drop (0 + (a.eval q).cells.size)).toArray) := by
      simp only [execOp, ho, e1, hst, Sem.run_bind, Sem.run_pure, Result.andThen_ok]
    unfold Oper.wp
    rw [hrun, Oper.upon_skip, hd]
    refine ⟨(), .int .i64 0, R, trivial, rfl, core_set h1 hi rfl rfl ⟨hR, _, setRow_heap w b _ _ t' _ hb, ?_⟩ (setRow_grown w b _), RSub.refl _, rfl⟩
    rw [← Array.length_toList]
    have := denC_splice (off := 0) hdc e2 (by omega)
    rw [splice_all e] at this
    exact this
/-- A call that takes own parts from the front and a block from the end. -/
theorem sq_callGT {ops : Array Oper} {rs : List Oper} {env : List (Nat × AV)} {K : AState → Prop} {d : Nat} {f : FuncId} {args : Array Operand} {tys : Array TypeId} {ps : List Operand} {xs : List AV} {s1 r1 : List Own} (is : List Nat) (m j : Nat) (B D : List Own) (NT : α → List Own) (hg : o.guard = none) (ho : o.op = .call { callee := .value (.func f), args := args, argTypes := tys }) (hd : o.dst = some d) (hn : Nat.blt d n = true)
    (hc : ∀ (vs : Array Value) (w : World), (callFunc f vs).run P w = .ok (.enter f vs) w) (hps : args.toList = ps) (hp : pick own is = (s1, r1)) (hB : (r1.drop m).Perm (B ++ D)) (hs : GSpec P f xs (s1 ++ B) ok O V) (he : EvL (getv · env) ps xs) (hN : ∀ a, ((O a).drop j ++ D).Perm (NT a))
    (k : ∀ a, ok a → ASeq P G n ops rs ⟨(O a).take j ++ (r1.take m ++ NT a), (d, V a) :: env⟩ K) : ASeq P G n ops (o :: rs) ⟨own, env⟩ K := by
  refine sq_callGP (sel := s1 ++ B) (rest := r1.take m ++ D) (own' := fun a => (O a).take j ++ (r1.take m ++ NT a)) hg ho hd hn hc hps ?_ hs he (fun a => ?_) k
  · refine (pick_perm' hp).trans ?_
    have h1 : r1.Perm (r1.take m ++ (B ++ D)) := by
      have := List.Perm.append_left (r1.take m) hB
      rwa [List.take_append_drop] at this
    refine (List.Perm.append_left s1 h1).trans ?_
    rw [List.append_assoc]
    refine List.Perm.append_left s1 ?_
    rw [← List.append_assoc, ← List.append_assoc]
    exact List.Perm.append_right D List.perm_append_comm
  · have h1 : (O a ++ (r1.take m ++ D)).Perm ((O a).take j ++ (r1.take m ++ ((O a).drop j ++ D))) := by
      conv => lhs; rw [← List.take_append_drop j (O a)]
      rw [List.append_assoc]
      refine List.Perm.append_left _ ?_
      rw [← List.append_assoc, ← List.append_assoc]
      exact List.Perm.append_right D List.perm_append_comm
    exact h1.trans (List.Perm.append_left _ (List.Perm.append_left _ (hN a)))
theorem retGT {fn : Func} {s : AState} {sel rest : List Own} (is : List Nat) (m : Nat) (B D : List Own) (x : α) (hx : ok x) (hp : pick s.own is = (sel, rest)) (hB : (rest.drop m).Perm (B ++ D)) (ho : O x = sel ++ B) (h : ∀ w0 R0 R a w, St G n w0 R0 s R a w → ∃ v, (results fn a.tmps).run P w = .ok v w ∧ (V x).den R v) : RetOkG P G n fn s ok O V := fun w0 R0 R a w hs => by
  obtain ⟨v, h1, h2⟩ := h w0 R0 R a w hs
  refine ⟨x, v, R, hx, h1, h2, RSub.refl _, ?_⟩
  rw [ho]
  refine core_left (b := rest.take m ++ D) (core_perm hs.1 ?_)
  refine (pick_perm' hp).trans ?_
  have h1 : rest.Perm (rest.take m ++ (B ++ D)) := by
    have := List.Perm.append_left (rest.take m) hB
    rwa [List.take_append_drop] at this
  refine (List.Perm.append_left sel h1).trans ?_
  rw [List.append_assoc]
  refine List.Perm.append_left sel ?_
  rw [← List.append_assoc, ← List.append_assoc]
  exact List.Perm.append_right D List.perm_append_comm
end
end
/-! ### Regions in which effects stand in several orders -/
inductive OT where
  | nil
  | pure (i : Nat) (t : OT)
  | e1 (i : Nat) (t : OT)
  | e2 (i : Nat) (t : OT) (j : Nat) (u : OT)
def OT.deep : OT → Nat → Bool
  | .nil, 0 => true
  | .pure _ t, f + 1 => t.deep f
  | .e1 _ t, f + 1 => t.deep f
  | .e2 _ t _ u, f + 1 => t.deep f && u.deep f
  | _, _ => false
def ordT (md : Region.Mode) (ops : Array Oper) (g m : Nat) : OT → Array Bool → Bool
  | .nil, listed => Region.seqB md ops g m listed
  | .pure i r, listed => (Region.ready md ops listed).contains i && Region.free md ops listed i && Nat.blt i m && ordT md ops g m r (listed.setIfInBounds i true)
  | .e1 i r, listed => decide (Region.ready md ops listed = [i]) && Nat.blt i m && ordT md ops g m r (listed.setIfInBounds i true)
  | .e2 i r j u, listed => decide (Region.ready md ops listed = [i, j]) && Nat.blt i m && Nat.blt j m && ordT md ops g m r (listed.setIfInBounds i true) && ordT md ops g m u (listed.setIfInBounds j true)
def treeB (md : Region.Mode) (ops : Array Oper) (m : Nat) (ord : OT) : Bool :=
  decide (m < ops.size) && ord.deep m && Region.sinkB md ops m && Region.chainB md ops m && ordT md ops (ops.size - m) m ord (Array.replicate ops.size false)
section
variable {P : Program} {G : Nat → Prop} {n : Nat}
def EffS (P : Program) (G : Nat → Prop) (n : Nat) (Inv : List Own → Prop) (ops : Array Oper) (i : Nat) (env : List (Nat × AV)) (W : List Own) (K : List (Nat × AV) → List Own → Prop) : Prop :=
  ∃ o, ops[i]? = some o ∧ o.guard = none ∧ ∃ (α : Type) (ok : α → Prop) (W' : α → List Own) (V : α → AV), OpE P G n W ops o (getv · env) ok W' V ∧ (∀ a, ok a → Inv (W' a)) ∧ ∀ a, ok a → K (putv o.dst (V a) env) (W' a)
def BT (P : Program) (G : Nat → Prop) (n : Nat) (Inv : List Own → Prop) (ops : Array Oper) : OT → List (Nat × AV) → List Own → (List (Nat × AV) → List Own → Prop) → Prop
  | .nil, env, W, K => K env W
  | .pure i r, env, W, K => ∃ o, ops[i]? = some o ∧ ∃ x, (∀ W', Inv W' → OpA P G n W' ops o (getv · env) x) ∧ BT P G n Inv ops r (putv o.dst x env) W K
  | .e1 i r, env, W, K => EffS P G n Inv ops i env W fun env' W' => BT P G n Inv ops r env' W' K
  | .e2 i r j u, env, W, K => (EffS P G n Inv ops i env W fun env' W' => BT P G n Inv ops r env' W' K) ∧ EffS P G n Inv ops j env W fun env' W' => BT P G n Inv ops u env' W' K
theorem wpAnyB_ot {Inv : List Own → Prop} {md : Region.Mode} {ops : Array Oper} {m g : Nat} {K : List (Nat × AV) → List Own → Prop} (hs : Region.sinkB md ops m = true) (hc : Region.chainB md ops m = true) (hn : m < ops.size) :
    ∀ (l : OT) (f : Nat) (listed : Array Bool) (env : List (Nat × AV)) (W : List Own), l.deep f = true → HeadInv md ops m listed → Inv W →
    ordT md ops g m l listed = true → BT P G n Inv ops l env W K →
    wpAnyB P G n Inv md ops m (fun listed' E W => Region.seqB md ops g m listed' = true ∧ ∃ env', E = (getv · env') ∧ K env' W) f listed (getv · env) W
  | .nil, 0, listed, env, W, _, _, _, hB, h => ⟨hB, env, rfl, h⟩
  | .nil, _ + 1, _, _, _, hdp, _, _, _, _ => by cases hdp
  | .pure _ _, 0, _, _, _, hdp, _, _, _, _ => by cases hdp
  | .e1 _ _, 0, _, _, _, hdp, _, _, _, _ => by cases hdp
  | .e2 _ _ _ _, 0, _, _, _, hdp, _, _, _, _ => by cases hdp
  | .pure i l, f + 1, listed, env, W, hdp, inv, hW, hB, h => by
    simp only [ordT, Bool.and_eq_true] at hB
    obtain ⟨⟨⟨hr, hf⟩, hlt⟩, hB'⟩ := hB
    have hkn : i < m := Nat.blt_eq.mp hlt
    have hr' : i ∈ Region.ready md ops listed := by simpa using hr
    obtain ⟨o, ho, x, hx, hK⟩ := h
    refine wpAnyB_first ho hs hc hn hkn (fun listed' E W hL => seqB_ready hL.1) f listed _ W inv hW (Region.free_spec ho hf) hr' hx ?_
    rw [← getv_putv]
    exact wpAnyB_ot hs hc hn l f _ _ W hdp (inv.set hr' hkn) hW hB' hK
  | .e1 i l, f + 1, listed, env, W, hdp, inv, hW, hB, h => by
    simp only [ordT, Bool.and_eq_true, decide_eq_true_eq] at hB
    obtain ⟨⟨hr, hlt⟩, hB'⟩ := hB
    have hkn : i < m := Nat.blt_eq.mp hlt
    have hr' : i ∈ Region.ready md ops listed := by rw [hr]; simp
    obtain ⟨o, ho, hg, α, ok, W', V, h1, h2, h3⟩ := h
    refine ⟨fun h0 => (by rw [h0] at hr'; cases hr'), fun j hj => ?_⟩
    rw [hr] at hj
    have : j = i := by simpa using hj
    subst this
    refine ⟨hkn, ?_⟩
    unfold qB
    simp only [ho]
    refine .inr ⟨hg, α, ok, W', V, h1, h2, fun a ha => ?_⟩
    rw [← getv_putv]
    exact wpAnyB_ot hs hc hn l f _ _ (W' a) hdp (inv.set hr' hkn) (h2 a ha) hB' (h3 a ha)
  | .e2 i l k u, f + 1, listed, env, W, hdp, inv, hW, hB, h => by
    simp only [ordT, Bool.and_eq_true, decide_eq_true_eq] at hB
    obtain ⟨⟨⟨⟨hr, hlt⟩, hlt2⟩, hB'⟩, hB2⟩ := hB
    simp only [OT.deep, Bool.and_eq_true] at hdp
    have hkn : i < m := Nat.blt_eq.mp hlt
    have hkn2 : k < m := Nat.blt_eq.mp hlt2
    have hr' : i ∈ Region.ready md ops listed := by rw [hr]; simp
    have hr2 : k ∈ Region.ready md ops listed := by rw [hr]; simp
    obtain ⟨⟨o, ho, hg, α, ok, W', V, h1, h2, h3⟩, ⟨o', ho', hg', α', ok', W'', V', h1', h2', h3'⟩⟩ := h
    refine ⟨fun h0 => (by rw [h0] at hr'; cases hr'), fun j hj => ?_⟩
    rw [hr] at hj
    simp only [List.mem_cons, List.not_mem_nil, or_false] at hj
    rcases hj with hj | hj
    · subst hj
      refine ⟨hkn, ?_⟩
      unfold qB
      simp only [ho]
      refine .inr ⟨hg, α, ok, W', V, h1, h2, fun a ha => ?_⟩
      rw [← getv_putv]
      exact wpAnyB_ot hs hc hn l f _ _ (W' a) hdp.1 (inv.set hr' hkn) (h2 a ha) hB' (h3 a ha)
    · subst hj
      refine ⟨hkn2, ?_⟩
      unfold qB
      simp only [ho']
      refine .inr ⟨hg', α', ok', W'', V', h1', h2', fun a ha => ?_⟩
      rw [← getv_putv]
      exact wpAnyB_ot hs hc hn u f _ _ (W'' a) hdp.2 (inv.set hr2 hkn2) (h2' a ha) hB2 (h3' a ha)
theorem awp_region_tree {id : Nat} {l : List Oper} {Q : Exit → AState → Prop} {env : List (Nat × AV)} {own : List Own} (base : List Own) (m : Nat) (ord : OT) (hm : P.follows .mixedOrders = true) (hB : treeB .any l.toArray m ord = true) (hd : dstOk n l = true) (hb : InvX base own)
    (h : BT P G n (InvX base) l.toArray ord env own (fun env' W => ASeq P G n l.toArray (l.drop m) ⟨W, env'⟩ (Q .normal))) : AWP P G n (.region id l.toArray true) Q ⟨own, env⟩ := fun w0 R0 R a w ⟨h1, h2, h3, h4⟩ => by
  simp only [treeB, Bool.and_eq_true, decide_eq_true_eq] at hB
  obtain ⟨⟨⟨⟨hn, hdp⟩, hs⟩, hc⟩, hlex⟩ := hB
  have hn' : m < l.length := by simpa using hn
  have hdl : (l.drop m).length = l.toArray.size - m := by simp
  have inv0 : HeadInv .any l.toArray m (Array.replicate l.toArray.size false) :=
    ⟨by simp, fun j oj _ hl => (by rw [getD_replicate_false] at hl; cases hl), fun t _ ht => getD_in (by simpa using ht) (getD_replicate_false _ _)⟩
  have H := wpAnyB_ot (g := l.toArray.size - m) hs hc hn ord m _ env own hdp inv0 hb hlex h
  refine wp_region_any hm ?_
  have := wpAny_of_B (w0 := w0) (R0 := R0) (R00 := R) (g := l.toArray.size - m) (Q' := fun e a' w' => ∃ s' R', Q e s' ∧ RSub R R' ∧ St G n w0 R0 s' R' a' w') (fun i o ho d e => dstOk_spec hd i o (by simpa using ho) d e) (fun listed E W R' a' w' g1 g2 g3 g4 g5 hL => by
    obtain ⟨hL1, env', rfl, hL2⟩ := hL
    have := wpAny_of_seq (P := P) (md := .any) (Q' := fun e a' w' => ∃ s' R', Q e s' ∧ RSub R R' ∧ St G n w0 R0 s' R' a' w') (l.drop m) m listed a' w' (fun j => by simp [List.getElem?_drop]) (by rw [hdl]; exact hL1)
      (wpList_of_seq (R00 := R) (K := Q .normal) (fun s' R' a w q r1 r2 => ⟨s', R', q, r1, r2⟩) _ (⟨W, env'⟩ : AState) R' a' w' g1 ⟨g2, g3, g4, g5⟩ hL2)
    rwa [hdl] at this) _ _ _ own R a _ (RSub.refl _) (core_drew h1) h2 h3 h4 H
  rw [show m + (l.toArray.size - m) = l.toArray.size by omega] at this
  exact this
section
variable {ops : Array Oper} {i j : Nat} {o : Oper} {r u : OT} {env : List (Nat × AV)} {W : List Own} {base : List Own} {K : List (Nat × AV) → List Own → Prop} {d : Nat} {x : AV}
theorem bt_nil {Inv : List Own → Prop} (h : K env W) : BT P G n Inv ops .nil env W K := h
theorem bt_plain (ho : ops[i]? = some o) (hg : o.guard = none) (hd : o.dst = some d) (h : ∀ ext, OpW P G n (base ++ ext) o (getv · env) x) (k : BT P G n (InvX base) ops r ((d, x) :: env) W K) : BT P G n (InvX base) ops (.pure i r) env W K :=
  ⟨o, ho, x, fun W' ⟨ext, e⟩ => by subst e; exact opA_plain hg (h ext), by rw [hd]; exact k⟩
theorem bt_grd {c : Bool} (ho : ops[i]? = some o) (hd : o.dst = some d) (hg : GuardIs ops o (getv · env) c) (h : c = true → ∀ ext, OpW P G n (base ++ ext) o (getv · env) x) (k : BT P G n (InvX base) ops r ((d, AV.whn c x) :: env) W K) : BT P G n (InvX base) ops (.pure i r) env W K :=
  ⟨o, ho, _, fun W' ⟨ext, e⟩ => by subst e; exact opA_grd hg fun hc => h hc ext, by rw [hd]; exact k⟩
theorem bt_e1 {Inv : List Own → Prop} (h : EffS P G n Inv ops i env W fun env' W' => BT P G n Inv ops r env' W' K) : BT P G n Inv ops (.e1 i r) env W K := h
theorem bt_e2 {Inv : List Own → Prop} (h : EffS P G n Inv ops i env W fun env' W' => BT P G n Inv ops r env' W' K) (k : EffS P G n Inv ops j env W fun env' W' => BT P G n Inv ops u env' W' K) : BT P G n Inv ops (.e2 i r j u) env W K := ⟨h, k⟩
theorem eff_s0 {Inv : List Own → Prop} {α : Type} {ok : α → Prop} {W' : α → List Own} {V : α → AV} (ho : ops[i]? = some o) (hg : o.guard = none) (hd : o.dst = none) (h : OpE P G n W ops o (getv · env) ok W' V) (hi : ∀ a, ok a → Inv (W' a)) (k : ∀ a, ok a → K env (W' a)) : EffS P G n Inv ops i env W K :=
  ⟨o, ho, hg, α, ok, W', V, h, hi, fun a ha => by rw [hd]; exact k a ha⟩
theorem eff_s {Inv : List Own → Prop} {α : Type} {ok : α → Prop} {W' : α → List Own} {V : α → AV} (ho : ops[i]? = some o) (hg : o.guard = none) (hd : o.dst = some d) (h : OpE P G n W ops o (getv · env) ok W' V) (hi : ∀ a, ok a → Inv (W' a)) (k : ∀ a, ok a → K ((d, V a) :: env) (W' a)) : EffS P G n Inv ops i env W K :=
  ⟨o, ho, hg, α, ok, W', V, h, hi, fun a ha => by rw [hd]; exact k a ha⟩
end
end
theorem flatC_nil : ∀ c ∈ ([] : List AV), Flat c := fun c h => by simp at h
theorem flatC_cons {x : AV} {xs : List AV} (h : Flat x) (k : ∀ c ∈ xs, Flat c) : ∀ c ∈ x :: xs, Flat c := fun c hc => by
  rcases List.mem_cons.1 hc with e | e
  · subst e; exact h
  · exact k c e
section
variable {T X : Type} {cs : T → List AV} {ocs : T → X → List AV} {ow : T → X → List Own}
def nrows (ocs : T → X → List AV) (l : List T) (xs : List X) : List (List AV) := List.zipWith ocs l xs
def nin (ow : T → X → List Own) (l : List T) (xs : List X) : List Own := (List.zipWith ow l xs).flatten
theorem nrows_len {l : List T} {xs : List X} (h : xs.length = l.length) : (nrows ocs l xs).length = l.length := by unfold nrows; rw [List.length_zipWith]; omega
theorem nrows_get {l : List T} {xs : List X} {i : Nat} {p : T} {x : X} (hp : l[i]? = some p) (hx : xs[i]? = some x) : (nrows ocs l xs)[i]? = some (ocs p x) := by
  unfold nrows; rw [List.getElem?_zipWith, hp, hx]
theorem nrows_snoc {l : List T} {xs : List X} {p : T} {x : X} (h : xs.length = l.length) : nrows ocs (l ++ [p]) (xs ++ [x]) = nrows ocs l xs ++ [ocs p x] := by
  unfold nrows; rw [List.zipWith_append h.symm]; rfl
theorem nin_snoc {l : List T} {xs : List X} {p : T} {x : X} (h : xs.length = l.length) : (ow p x ++ nin ow l xs).Perm (nin ow (l ++ [p]) (xs ++ [x])) := by
  unfold nin; rw [List.zipWith_append h.symm, List.flatten_append]
  refine List.perm_append_comm.trans ?_
  simp
theorem take_snoc {l : List T} {i : Nat} {p : T} (h : l[i]? = some p) : l.take (i + 1) = l.take i ++ [p] := by rw [List.take_add_one, h]; rfl
theorem nin_step {l : List T} {xs : List X} {p : T} {x : X} {i : Nat} (hp : l[i]? = some p) (h : xs.length = i) : (ow p x ++ nin ow (l.take i) xs).Perm (nin ow (l.take (i + 1)) (xs ++ [x])) := by
  have hi := (List.getElem?_eq_some_iff.1 hp).1
  rw [take_snoc hp]
  exact nin_snoc (by rw [h, List.length_take]; omega)
theorem nrows_step {l : List T} {xs : List X} {p : T} {x : X} {i : Nat} (hp : l[i]? = some p) (h : xs.length = i) : nrows ocs (l.take i) xs ++ [ocs p x] = nrows ocs (l.take (i + 1)) (xs ++ [x]) := by
  have hi := (List.getElem?_eq_some_iff.1 hp).1
  rw [take_snoc hp, nrows_snoc (by rw [h, List.length_take]; omega)]
theorem nfill_step {l : List T} {xs : List X} {p : T} {x : X} {i : Nat} {z : List AV} (hp : l[i]? = some p) (h : xs.length = i) : (nrows ocs (l.take i) xs ++ List.replicate (l.length - i) z).set i (ocs p x) = nrows ocs (l.take (i + 1)) (xs ++ [x]) ++ List.replicate (l.length - (i + 1)) z := by
  have hi := (List.getElem?_eq_some_iff.1 hp).1
  have h1 : (nrows ocs (l.take i) xs).length = i := by rw [nrows_len (by rw [h, List.length_take]; omega), List.length_take]; omega
  rw [List.set_append_right _ _ (by omega), h1, Nat.sub_self, show l.length - i = (l.length - (i + 1)) + 1 by omega, List.replicate_succ, List.set_cons_zero, ← nrows_step hp h]
  simp
theorem nfill_len {l : List T} {xs : List X} {i : Nat} {z : List AV} (hi : i ≤ l.length) (h : xs.length = i) : (nrows ocs (l.take i) xs ++ List.replicate (l.length - i) z).length = l.length := by
  rw [List.length_append, List.length_replicate, nrows_len (by rw [h, List.length_take]; omega), List.length_take]; omega
theorem nin_get {p : T} {x : X} : ∀ {l : List T} {xs : List X} {i : Nat}, l[i]? = some p → xs[i]? = some x → (nin ow l xs).Perm (ow p x ++ nin ow (l.eraseIdx i) (xs.eraseIdx i))
  | [], _, _, h, _ => by simp at h
  | _ :: _, [], _, _, h => by simp at h
  | q :: l, y :: xs, 0, hp, hx => by simp at hp hx; subst hp; subst hx; exact List.Perm.refl _
  | q :: l, y :: xs, i + 1, hp, hx => by
    have ih := nin_get (l := l) (xs := xs) (i := i) (by simpa using hp) (by simpa using hx)
    unfold nin at *
    simp only [List.zipWith_cons_cons, List.flatten_cons, List.eraseIdx_cons_succ]
    refine (List.Perm.append_left (ow q y) ih).trans ?_
    rw [← List.append_assoc, ← List.append_assoc]
    exact List.Perm.append_right _ List.perm_append_comm
theorem nin_set {p p' : T} {x : X} {l : List T} {xs : List X} {i : Nat} (hp : l[i]? = some p) (hx : xs[i]? = some x) : (ow p' x ++ nin ow (l.eraseIdx i) (xs.eraseIdx i)).Perm (nin ow (l.set i p') xs) := by
  have hi := (List.getElem?_eq_some_iff.1 hp).1
  have h := nin_get (ow := ow) (l := l.set i p') (xs := xs) (i := i) (p := p') (x := x) (List.getElem?_set_self hi) hx
  rw [List.eraseIdx_set_eq] at h
  exact h.symm
theorem nrows_set {p p' : T} {x : X} : ∀ {l : List T} {xs : List X} {i : Nat}, l[i]? = some p → xs[i]? = some x → (nrows ocs l xs).set i (ocs p' x) = nrows ocs (l.set i p') xs
  | [], _, _, h, _ => by simp at h
  | _ :: _, [], _, _, h => by simp at h
  | q :: l, y :: xs, 0, hp, hx => by simp at hx; subst hx; rfl
  | q :: l, y :: xs, i + 1, hp, hx => by
    have ih := nrows_set (p := p) (p' := p') (x := x) (l := l) (xs := xs) (i := i) (by simpa using hp) (by simpa using hx)
    unfold nrows at *
    simp only [List.zipWith_cons_cons, List.set_cons_succ]
    rw [ih]
theorem nrows_split {p : T} {x : X} : ∀ {l : List T} {xs : List X} {i : Nat}, l[i]? = some p → xs[i]? = some x → nrows ocs l xs = nrows ocs (l.take i) (xs.take i) ++ ocs p x :: nrows ocs (l.drop (i + 1)) (xs.drop (i + 1))
  | [], _, _, h, _ => by simp at h
  | _ :: _, [], _, _, h => by simp at h
  | q :: l, y :: xs, 0, hp, hx => by simp at hp hx; subst hp; subst hx; rfl
  | q :: l, y :: xs, i + 1, hp, hx => by
    have ih := nrows_split (p := p) (x := x) (l := l) (xs := xs) (i := i) (by simpa using hp) (by simpa using hx)
    unfold nrows at *
    simp only [List.zipWith_cons_cons, List.take_succ_cons, List.drop_succ_cons, List.cons_append]
    rw [ih]
theorem nrows_join {p p' : T} {x : X} {l : List T} {xs : List X} {i : Nat} (hp : l[i]? = some p) (hx : xs[i]? = some x) : nrows ocs (l.take i) (xs.take i) ++ ocs p' x :: nrows ocs (l.drop (i + 1)) (xs.drop (i + 1)) = nrows ocs (l.set i p') xs := by
  have hi := (List.getElem?_eq_some_iff.1 hp).1
  rw [nrows_split (l := l.set i p') (i := i) (p := p') (x := x) (List.getElem?_set_self hi) hx, List.take_set_of_le (Nat.le_refl _), List.drop_set_of_lt (by omega)]
theorem nrows_tlen {p : T} {x : X} {l : List T} {xs : List X} {i : Nat} (hp : l[i]? = some p) (hx : xs[i]? = some x) : (nrows ocs (l.take i) (xs.take i)).length = i := by
  have h1 := (List.getElem?_eq_some_iff.1 hp).1
  have h2 := (List.getElem?_eq_some_iff.1 hx).1
  unfold nrows; rw [List.length_zipWith, List.length_take, List.length_take]; omega
theorem nrows_jlen {p : T} {x : X} {l : List T} {xs : List X} {i : Nat} {r : List AV} (hp : l[i]? = some p) (hx : xs[i]? = some x) (hl : xs.length = l.length) : (nrows ocs (l.take i) (xs.take i) ++ r :: nrows ocs (l.drop (i + 1)) (xs.drop (i + 1))).length = l.length := by
  have h1 := (List.getElem?_eq_some_iff.1 hp).1
  rw [List.length_append, nrows_tlen hp hx, List.length_cons]
  unfold nrows; rw [List.length_zipWith, List.length_drop, List.length_drop]; omega
theorem nin_flat (h : ∀ p x, ∀ q ∈ ow p x, FlatO q) (l : List T) (xs : List X) : ∀ q ∈ nin ow l xs, FlatO q := fun q hq => by
  unfold nin at hq
  obtain ⟨m, hm, hqm⟩ := List.mem_flatten.1 hq
  obtain ⟨i, hi⟩ := List.getElem?_of_mem hm
  rw [List.getElem?_zipWith] at hi
  split at hi
  · injection hi with hi; subst hi; exact h _ _ q hqm
  · cases hi
theorem nrows_flat (h : ∀ p x, ∀ c ∈ ocs p x, Flat c) (l : List T) (xs : List X) : ∀ e ∈ nrows ocs l xs, ∀ c ∈ e, Flat c := fun e he => by
  unfold nrows at he
  obtain ⟨i, hi⟩ := List.getElem?_of_mem he
  rw [List.getElem?_zipWith] at hi
  split at hi
  · injection hi with hi; subst hi; exact h _ _
  · cases hi
theorem nin_mem {p : T} {x : X} {l : List T} {xs : List X} {i : Nat} (hp : l[i]? = some p) (hx : xs[i]? = some x) : ∀ o ∈ ow p x, o ∈ nin ow l xs := fun o ho => (nin_get (ow := ow) (i := i) hp hx).mem_iff.2 (List.mem_append_left _ ho)
theorem nin_lend {own : List Own} {v : Value} {t : TypeId} {sz : Nat} {l : List T} {xs : List X} (hlc : ∀ p x, (∀ o ∈ ow p x, o ∈ own) → LendC own (ocs p x) (cs p)) (hlen : xs.length = l.length) (i : Nat) (hi : own[i]? = some (.arr v t sz (nrows ocs l xs))) (hm : ∀ o ∈ nin ow l xs, o ∈ own) : LendTo own (AV.is v) (AV.list sz (l.map cs)) :=
  lt_arr (List.mem_of_getElem? hi) ⟨by rw [nrows_len hlen, List.length_map], fun j a b ha hb => by
    rw [List.getElem?_map] at hb
    cases hp : l[j]? with
    | none => rw [hp] at hb; cases hb
    | some p =>
      rw [hp] at hb
      have hj := (List.getElem?_eq_some_iff.1 hp).1
      obtain ⟨x, hx⟩ : ∃ x, xs[j]? = some x := ⟨_, List.getElem?_eq_getElem (by omega)⟩
      rw [nrows_get hp hx] at ha
      injection ha with ha; injection hb with hb; subst ha; subst hb
      exact hlc p x fun o ho => hm o (nin_mem hp hx o ho)⟩
end
section
variable {T : Type}
def marksN (mk : T → Int → T) (mn : T → Int → Int) : List T → Int → List T
  | [], _ => []
  | p :: l, k => mk p k :: marksN mk mn l (mn p k)
def countN (mn : T → Int → Int) : List T → Int → Int
  | [], k => k
  | p :: l, k => countN mn l (mn p k)
variable {mk : T → Int → T} {mn : T → Int → Int}
theorem marksN_len : ∀ (l : List T) (k : Int), (marksN mk mn l k).length = l.length
  | [], _ => rfl
  | p :: l, k => by unfold marksN; simp [marksN_len l]
theorem countN_snoc {p : T} : ∀ {l : List T} {i : Nat} {k : Int}, l[i]? = some p → countN mn (l.take (i + 1)) k = mn p (countN mn (l.take i) k)
  | [], _, _, h => by simp at h
  | q :: l, 0, k, h => by simp at h; subst h; rfl
  | q :: l, i + 1, k, h => by
    simp only [List.take_succ_cons]
    unfold countN
    exact countN_snoc (by simpa using h)
theorem marksN_snoc {p : T} : ∀ {l : List T} {i : Nat} {k : Int}, l[i]? = some p → marksN mk mn (l.take (i + 1)) k = marksN mk mn (l.take i) k ++ [mk p (countN mn (l.take i) k)]
  | [], _, _, h => by simp at h
  | q :: l, 0, k, h => by simp at h; subst h; rfl
  | q :: l, i + 1, k, h => by
    simp only [List.take_succ_cons]
    unfold marksN countN
    rw [marksN_snoc (by simpa using h)]; rfl
theorem marksN_get {p : T} : ∀ {l : List T} {i : Nat} {k : Int}, l[i]? = some p → (marksN mk mn l k)[i]? = some (mk p (countN mn (l.take i) k))
  | [], _, _, h => by simp at h
  | q :: l, 0, k, h => by simp at h; subst h; rfl
  | q :: l, i + 1, k, h => by
    simp only [List.take_succ_cons]
    unfold marksN countN
    simpa using marksN_get (l := l) (i := i) (k := mn q k) (by simpa using h)
theorem countN_le (hm : ∀ p k, k ≤ mn p k) : ∀ (l : List T) (k : Int), k ≤ countN mn l k
  | [], k => Int.le_refl _
  | p :: l, k => Int.le_trans (hm p k) (countN_le hm l _)
theorem countN_len (hm : ∀ p k, k + 1 ≤ mn p k) : ∀ (l : List T) (k : Int), k + l.length ≤ countN mn l k
  | [], k => by simp [countN]
  | p :: l, k => by
    have h1 := countN_len hm l (mn p k)
    have h2 := hm p k
    unfold countN
    simp only [List.length_cons]
    omega
theorem countN_take (hm : ∀ p k, k ≤ mn p k) : ∀ (l : List T) (i : Nat) (k : Int), k ≤ countN mn (l.take i) k ∧ countN mn (l.take i) k ≤ countN mn l k
  | [], i, k => by simp [countN]
  | p :: l, 0, k => by simp only [List.take_zero]; exact ⟨Int.le_refl _, countN_le hm _ _⟩
  | p :: l, i + 1, k => by
    simp only [List.take_succ_cons]
    unfold countN
    have h1 := countN_take hm l i (mn p k)
    exact ⟨Int.le_trans (hm p k) h1.1, h1.2⟩
/-- What stands while the marks go through the list. -/
def midN (mk : T → Int → T) (mn : T → Int → Int) (l : List T) (k : Int) (i : Nat) : List T := marksN mk mn (l.take i) k ++ l.drop i
theorem midN_zero {l : List T} {k : Int} : midN mk mn l k 0 = l := by unfold midN; simp [marksN]
theorem midN_end {l : List T} {k : Int} {i : Nat} (h : l.length ≤ i) : midN mk mn l k i = marksN mk mn l k := by unfold midN; rw [List.take_of_length_le h, List.drop_eq_nil_of_le h, List.append_nil]
theorem midN_get {l : List T} {k : Int} {i : Nat} {p : T} (h : l[i]? = some p) : (midN mk mn l k i)[i]? = some p := by
  have hi := (List.getElem?_eq_some_iff.1 h).1
  unfold midN
  rw [List.getElem?_append_right (by rw [marksN_len, List.length_take]; omega), marksN_len, List.length_take, Nat.min_eq_left (by omega), Nat.sub_self, List.getElem?_drop]
  simpa using h
theorem midN_len {l : List T} {k : Int} {i : Nat} (h : i ≤ l.length) : (midN mk mn l k i).length = l.length := by
  unfold midN; rw [List.length_append, marksN_len, List.length_take, List.length_drop]; omega
theorem midN_step {l : List T} {k : Int} {i : Nat} {p : T} (h : l[i]? = some p) : (midN mk mn l k i).set i (mk p (countN mn (l.take i) k)) = midN mk mn l k (i + 1) := by
  have hi := (List.getElem?_eq_some_iff.1 h).1
  unfold midN
  rw [List.set_append_right _ _ (by rw [marksN_len, List.length_take]; omega), marksN_len, List.length_take, Nat.min_eq_left (by omega), Nat.sub_self, drop_some h, List.set_cons_zero, marksN_snoc h]
  simp
end
end Go.AV

set_option linter.unusedVariables false
set_option linter.unusedSimpArgs false
namespace Go.AV
section
variable {P : Program} {G : Nat → Prop} {n : Nat} {own : List Own} {o : Oper}
theorem gin_false {rest : List Own} : ∀ b, (fun _ : Nat => False) b → b ∈ rest.filterMap Own.blk := fun _ h => h.elim
theorem gin_nil {rest : List Own} : ∀ b, blksOf [] b → b ∈ rest.filterMap Own.blk := fun _ ⟨_, h, _⟩ => by simp at h
theorem gin_cons {q q' : Own} {ow rest : List Own} (i : Nat) (h : rest[i]? = some q') (hb : Own.blk q = Own.blk q') (k : ∀ b, blksOf ow b → b ∈ rest.filterMap Own.blk) : ∀ b, blksOf (q :: ow) b → b ∈ rest.filterMap Own.blk := fun b ⟨x, hx, hxb⟩ => by
  rcases List.mem_cons.1 hx with rfl | hx
  · exact List.mem_filterMap.2 ⟨q', List.mem_of_getElem? h, hb ▸ hxb⟩
  · exact k b ⟨x, hx, hxb⟩
/-- Some of what is owned is sealed; what the call took over is not. -/
theorem core_sealD {sel rest : List Own} {w0 : World} {R0 R : RHeap} {w : World} (h : Core G w0 R0 (sel ++ rest) R w) (hG : ∀ b, G b → b ∈ rest.filterMap Own.blk) : Core G w0 R0 rest (lend sel w R) w := by
  have hl := core_left h
  refine ⟨h.os, h.tape, h.output, h.size, h.block, lend_le hl, fun b hb => ?_, fun q hq => ?_, fun q hq => h.fresh q (List.mem_append_right _ hq), (core_right h).sep⟩
  · unfold lend
    cases hob : ownB sel b with
    | true =>
      obtain ⟨x, hx, hxb⟩ := ownB_true hob
      rcases h.fresh x (List.mem_append_left _ hx) b hxb with h1 | h1
      · omega
      · obtain ⟨y, hy, hyb⟩ := List.mem_filterMap.1 (hG b h1)
        exact absurd hyb (sep_apart h.sep hx hy hxb)
    | false => exact h.rold b hb
  · have hk := h.owned q (List.mem_append_right _ hq)
    refine Own.ok_keep hk (lend_sub hl) fun b hb => ⟨rfl, ?_⟩
    unfold lend
    cases hob : ownB sel b with
    | true =>
      obtain ⟨x, hx, hxb⟩ := ownB_true hob
      exact absurd hb (sep_apart h.sep hx hq hxb)
    | false => exact (Own.ok_blk hk hb).1
theorem le_sealD {env : List (Nat × AV)} {sel rest : List Own} {x y : AV} (is : List Nat) (t : Nat) (hp : pick own is = (sel, rest)) (ht : getv t env = some x) (hl : LendTo sel x y) (hG : ∀ b, G b → b ∈ rest.filterMap Own.blk) : Le G n ⟨own, env⟩ ⟨rest, (t, y) :: env⟩ := fun w0 R0 R a w ⟨h1, h2, h3⟩ => by
  have hc := core_pick h1 hp
  refine ⟨lend sel w R, lend_sub (core_left hc), core_sealD hc hG, fun k z hz => ?_, h3⟩
  simp only [getv] at hz
  by_cases hk : t = k
  · subst hk
    simp [Nat.beq_refl] at hz
    rw [← hz]
    exact hl G w0 R0 R w _ (core_left hc) (h2 t x ht)
  · rw [nat_beq_ne hk, cond_false] at hz
    exact z.mono (lend_sub (core_left hc)) (h2 k z hz)
/-- An operation with a guard: the cases. -/
theorem sq_gcase {ops : Array Oper} {rest : List Oper} {env : List (Nat × AV)} {K : AState → Prop} {d : Nat} {c : Bool} (hd : o.dst = some d) (hn : Nat.blt d n = true) (hg : GuardIs ops o (getv · env) c)
    (ht : c = true → ASeq P G n ops ({ o with guard := none } :: rest) ⟨own, env⟩ K) (hf : c = false → ASeq P G n ops rest ⟨own, (d, AV.is undef) :: env⟩ K) : ASeq P G n ops (o :: rest) ⟨own, env⟩ K := fun w0 R0 R a w hs => by
  have hgc := hg R a fun t _ y hy => hs.2.1 t y hy
  cases c with
  | true =>
    refine ⟨fun _ => ?_, fun hw => by rw [hgc] at hw; exact Bool.noConfusion hw⟩
    exact (ht rfl w0 R0 R a w hs).1 rfl
  | false =>
    refine ⟨fun hw => by rw [hgc] at hw; exact Bool.noConfusion hw, fun _ => ⟨_, R, hf rfl, RSub.refl _, ?_⟩⟩
    obtain ⟨h1, h2, h3, h4⟩ := hs
    refine ⟨h1, ?_, by rw [size_put]; exact h3, by rw [defers_put]; exact h4⟩
    have := envOk_put (d := o.dst) (x := AV.is undef) (v := undef) h2 (RSub.refl R) (fun q e => by rw [h3]; rw [hd] at e; injection e with e; subst e; exact Nat.blt_eq.mp hn) rfl
    rw [hd] at this ⊢
    exact this
theorem evif_no {E : EnvF} {p : Operand} {b : Bool} {x : AV} (h : b = false) : EvIf E p b x := fun hb => by rw [h] at hb; cases hb
theorem evb_cloL {E : EnvF} {p : Operand} {f : FuncId} {xs ys : List AV} (h : Ev E p (AV.clo f xs)) (hl : LendC own xs ys) : EvB own E p (AV.clo f ys) := fun G w0 R0 R a w hc he => by
  obtain ⟨vs, h1, h2⟩ := h R a he
  refine ⟨vs, h1, h2.1.trans hl.1, fun i v y hv hy => ?_⟩
  have hi : i < xs.length := by rw [hl.1]; exact (List.getElem?_eq_some_iff.1 hy).1
  have hx := List.getElem?_eq_getElem hi
  exact hl.2 i _ y hx hy G w0 R0 R w v hc (h2.2 i v _ hv hx)
theorem w_nilE {E : EnvF} {p : Operand} {xs : List AV} (ho : o.op = .nilCheck p) (hp : Ev E p (AV.eptr xs)) : OpW P G n own o E (AV.eptr xs) := opW_val fun R a w hr he => by
  obtain ⟨ad, h1, h2⟩ := ev_use hp (by simp [ho, Op.operands]) he
  exact ⟨_, by simp only [execOp, ho, h1, Sem.run_pure], ad, rfl, h2⟩
theorem w_fldX2 {E : EnvF} {t e : TypeId} {p : Operand} {fs : Array Field} {fd : Field} {f m k off : Nat} {v : Value} {sz : Nat} {es : List (List AV)} {ys : List AV} (i q : Nat) (ho : o.op = .fieldAddr t p f) (ht : P.underlying t = some (.struct fs)) (hk : fs[f]? = some fd) (hs : ∀ w, (sizeOf fd.type).run P w = .ok (m + 1) w)
    (hp : Ev E p (AV.is (elemPtr v (k * sz + off)))) (hi : own[i]? = some (.arr v e sz es)) (hoff : Nat.blt off sz = true) (hy : es[k]? = some ys) (hq : off + fd.offset = q) : OpW P G n own o E (AV.is (elemPtr v (k * sz + q))) := opW_core fun w0 R0 R a w hc he => by
  have e1 : a.eval p = _ := ev_use hp (by simp [ho, Op.operands]) he
  have hok := hc.owned _ (List.mem_of_getElem? hi)
  have hu := hok.2.1
  have hyl : ys.length = sz := hu ys (List.mem_of_getElem? hy)
  have hb1 := Nat.blt_eq.mp hoff
  obtain ⟨g, u0, h1, _⟩ := own_cells hok (flatten_get hu hy (List.getElem?_eq_getElem (show off < ys.length by omega)))
  rw [h1] at e1
  subst hq
  refine ⟨_, ?_, show elemPtr v (k * sz + (off + fd.offset)) = _ from rfl⟩
  rw [← Nat.add_assoc, elemPtr_add h1]
  simp only [execOp, ho, e1, Instr.fieldAt, run_underlying ht, hk, Instr.sureAddr, fieldPlace, hs, Sem.run_bind, Sem.run_pure, Result.andThen_ok, Sem.run_ite, Nat.add_eq_zero_iff, Nat.succ_ne_self, Nat.one_ne_zero, and_false, if_false]
/-- Bits of a number, where only their bounds matter. -/
def bandI (x y : Int) : Int := IntKind.u64.wrap (((BitVec.ofInt IntKind.u64.bits x &&& BitVec.ofInt IntKind.u64.bits y).toNat : Nat) : Int)
theorem w_band {E : EnvF} {t ty : TypeId} {p q : Operand} {x y : Int} (ho : o.op = .binOp .and t p q ty) (hp : Ev E p (AV.ik .u64 x)) (hq : Ev E q (AV.ik .u64 y)) : OpW P G n own o E (AV.ik .u64 (bandI x y)) := opW_val fun R a w _ he => by
  have h1 : a.eval p = .int .u64 x := ev_use hp (by simp [ho, Op.operands]) he
  have h2 : a.eval q = .int .u64 y := ev_use hq (by simp [ho, Op.operands]) he
  exact ⟨.int .u64 (bandI x y), by simp only [execOp, ho, h1, h2]; simp [go_sem]; rfl, rfl⟩
theorem agg_any {xs : List AV} (R : RHeap) (v : Value) (h : (AV.agg xs).den R v) : (AV.agg (List.replicate xs.length AV.any)).den R v := by
  obtain ⟨vs, e, hl, hd⟩ := h
  refine ⟨vs, e, by rw [hl, List.length_replicate], fun i u x hu hx => ?_⟩
  have hi : i < xs.length := by have := (List.getElem?_eq_some_iff.1 hx).1; simpa using this
  obtain ⟨_, h2⟩ := hd i u _ hu (List.getElem?_eq_getElem hi)
  rw [List.getElem?_replicate, if_pos hi] at hx
  injection hx with hx
  subst hx
  exact ⟨trivial, h2⟩
theorem wpAnyB_first0 {Inv : List Own → Prop} {md : Region.Mode} {ops : Array Oper} {m i : Nat} {oi : Oper} {x : AV} {L : Array Bool → EnvF → List Own → Prop} (hi : ops[i]? = some oi)
    (hm0 : m = ops.size) (hin : i < m)
    (hdone : ∀ listed E W, L listed E W → ∀ j ∈ Region.ready md ops listed, m ≤ j) :
    ∀ (f : Nat) (listed : Array Bool) (E : EnvF) (W : List Own), HeadInv md ops m listed → Inv W →
      (∀ j oj, ops[j]? = some oj → j ≠ i → listed.getD j true = false → (∀ e ∈ oj.after, Region.binds md e = true → e.on ≠ i) → oi.apart ops oj = true) →
      i ∈ Region.ready md ops listed → (∀ W, Inv W → OpA P G n W ops oi E x) →
      wpAnyB P G n Inv md ops m L f (listed.setIfInBounds i true) (updF oi.dst x E) W → wpAnyB P G n Inv md ops m L (f + 1) listed E W := by
  have put : ∀ {K : EnvF → List Own → Prop} {E : EnvF} {W : List Own}, Inv W → (∀ W, Inv W → OpA P G n W ops oi E x) → K (updF oi.dst x E) W → qB P G n Inv ops i K E W := fun hW hy hK => by
    unfold qB
    simp only [hi]
    exact .inl ⟨x, hy _ hW, hK⟩
  intro f
  induction f with
  | zero =>
    intro listed E W inv hW _ hr hy H
    have hun := (mem_ready.1 hr).1
    refine ⟨fun h => (by rw [h] at hr; cases hr), fun j hj => ?_⟩
    have hjn : j < m := by
      rcases Nat.lt_or_ge j m with h | h
      · exact h
      · obtain ⟨_, oj, hoj, _⟩ := mem_ready.1 hj
        have := (Array.getElem?_eq_some_iff.1 hoj).1
        omega
    refine ⟨hjn, ?_⟩
    by_cases hji : j = i
    · subst hji; exact put hW hy H
    · have := hdone _ _ _ H j (ready_mono hj hji)
      omega
  | succ f ih =>
    intro listed E W inv hW hfree hr hy H
    have hun := (mem_ready.1 hr).1
    refine ⟨fun h => (by rw [h] at hr; cases hr), fun j hj => ?_⟩
    have hjn : j < m := by
      rcases Nat.lt_or_ge j m with h | h
      · exact h
      · obtain ⟨_, oj, hoj, _⟩ := mem_ready.1 hj
        have := (Array.getElem?_eq_some_iff.1 hoj).1
        omega
    refine ⟨hjn, ?_⟩
    by_cases hji : j = i
    · subst hji; exact put hW hy H
    · have h1 := (H.2 j (ready_mono hj hji)).2
      obtain ⟨hjun, oj, hoj, hall⟩ := mem_ready.1 hj
      have hnot : ∀ e ∈ oj.after, Region.binds md e = true → e.on ≠ i := fun e he hb heq => by
        have h1 := hall e he hb
        rw [heq, getD_both hun] at h1
        cases h1
      have h2 := qB_put hoj (hfree j oj hoj hji hjun hnot) hW hy h1
      have hfree' : ∀ k ok, ops[k]? = some ok → k ≠ i → (listed.setIfInBounds j true).getD k true = false →
          (∀ e ∈ ok.after, Region.binds md e = true → e.on ≠ i) → oi.apart ops ok = true := fun k ok hk hki hun hno => by
        refine hfree k ok hk hki ?_ hno
        by_cases hjk : j = k
        · subst hjk; exact hjun
        · rw [getD_set_ne true hjk] at hun; exact hun
      refine qB_mono hW (fun E' W' hW' h3 => ih (listed.setIfInBounds j true) E' W' (inv.set hj hjn) hW' hfree' (ready_mono hr (Ne.symm hji)) h3.1 ?_) h2
      rw [Array.setIfInBounds_comm _ _ hji]
      exact h3.2
def treeZ (md : Region.Mode) (ops : Array Oper) (m : Nat) (ord : OT) : Bool :=
  decide (m = ops.size) && ord.deep m && ordT md ops (ops.size - m) m ord (Array.replicate ops.size false)
theorem wpAnyB_ot0 {Inv : List Own → Prop} {md : Region.Mode} {ops : Array Oper} {m g : Nat} {K : List (Nat × AV) → List Own → Prop} (hm0 : m = ops.size) :
    ∀ (l : OT) (f : Nat) (listed : Array Bool) (env : List (Nat × AV)) (W : List Own), l.deep f = true → HeadInv md ops m listed → Inv W →
    ordT md ops g m l listed = true → BT P G n Inv ops l env W K →
    wpAnyB P G n Inv md ops m (fun listed' E W => Region.seqB md ops g m listed' = true ∧ ∃ env', E = (getv · env') ∧ K env' W) f listed (getv · env) W
  | .nil, 0, listed, env, W, _, _, _, hB, h => ⟨hB, env, rfl, h⟩
  | .nil, _ + 1, _, _, _, hdp, _, _, _, _ => by cases hdp
  | .pure _ _, 0, _, _, _, hdp, _, _, _, _ => by cases hdp
  | .e1 _ _, 0, _, _, _, hdp, _, _, _, _ => by cases hdp
  | .e2 _ _ _ _, 0, _, _, _, hdp, _, _, _, _ => by cases hdp
  | .pure i l, f + 1, listed, env, W, hdp, inv, hW, hB, h => by
    simp only [ordT, Bool.and_eq_true] at hB
    obtain ⟨⟨⟨hr, hf⟩, hlt⟩, hB'⟩ := hB
    have hkn : i < m := Nat.blt_eq.mp hlt
    have hr' : i ∈ Region.ready md ops listed := by simpa using hr
    obtain ⟨o, ho, x, hx, hK⟩ := h
    refine wpAnyB_first0 ho hm0 hkn (fun listed' E W hL => seqB_ready hL.1) f listed _ W inv hW (Region.free_spec ho hf) hr' hx ?_
    rw [← getv_putv]
    exact wpAnyB_ot0 hm0 l f _ _ W hdp (inv.set hr' hkn) hW hB' hK
  | .e1 i l, f + 1, listed, env, W, hdp, inv, hW, hB, h => by
    simp only [ordT, Bool.and_eq_true, decide_eq_true_eq] at hB
    obtain ⟨⟨hr, hlt⟩, hB'⟩ := hB
    have hkn : i < m := Nat.blt_eq.mp hlt
    have hr' : i ∈ Region.ready md ops listed := by rw [hr]; simp
    obtain ⟨o, ho, hg, α, ok, W', V, h1, h2, h3⟩ := h
    refine ⟨fun h0 => (by rw [h0] at hr'; cases hr'), fun j hj => ?_⟩
    rw [hr] at hj
    have : j = i := by simpa using hj
    subst this
    refine ⟨hkn, ?_⟩
    unfold qB
    simp only [ho]
    refine .inr ⟨hg, α, ok, W', V, h1, h2, fun a ha => ?_⟩
    rw [← getv_putv]
    exact wpAnyB_ot0 hm0 l f _ _ (W' a) hdp (inv.set hr' hkn) (h2 a ha) hB' (h3 a ha)
  | .e2 i l k u, f + 1, listed, env, W, hdp, inv, hW, hB, h => by
    simp only [ordT, Bool.and_eq_true, decide_eq_true_eq] at hB
    obtain ⟨⟨⟨⟨hr, hlt⟩, hlt2⟩, hB'⟩, hB2⟩ := hB
    simp only [OT.deep, Bool.and_eq_true] at hdp
    have hkn : i < m := Nat.blt_eq.mp hlt
    have hkn2 : k < m := Nat.blt_eq.mp hlt2
    have hr' : i ∈ Region.ready md ops listed := by rw [hr]; simp
    have hr2 : k ∈ Region.ready md ops listed := by rw [hr]; simp
    obtain ⟨⟨o, ho, hg, α, ok, W', V, h1, h2, h3⟩, ⟨o', ho', hg', α', ok', W'', V', h1', h2', h3'⟩⟩ := h
    refine ⟨fun h0 => (by rw [h0] at hr'; cases hr'), fun j hj => ?_⟩
    rw [hr] at hj
    simp only [List.mem_cons, List.not_mem_nil, or_false] at hj
    rcases hj with hj | hj
    · subst hj
      refine ⟨hkn, ?_⟩
      unfold qB
      simp only [ho]
      refine .inr ⟨hg, α, ok, W', V, h1, h2, fun a ha => ?_⟩
      rw [← getv_putv]
      exact wpAnyB_ot0 hm0 l f _ _ (W' a) hdp.1 (inv.set hr' hkn) (h2 a ha) hB' (h3 a ha)
    · subst hj
      refine ⟨hkn2, ?_⟩
      unfold qB
      simp only [ho']
      refine .inr ⟨hg', α', ok', W'', V', h1', h2', fun a ha => ?_⟩
      rw [← getv_putv]
      exact wpAnyB_ot0 hm0 u f _ _ (W'' a) hdp.2 (inv.set hr2 hkn2) (h2' a ha) hB2 (h3' a ha)
theorem awp_region_tree0 {id : Nat} {l : List Oper} {Q : Exit → AState → Prop} {env : List (Nat × AV)} {own : List Own} (base : List Own) (m : Nat) (ord : OT) (hm : P.follows .mixedOrders = true) (hB : treeZ .any l.toArray m ord = true) (hd : dstOk n l = true) (hb : InvX base own)
    (h : BT P G n (InvX base) l.toArray ord env own (fun env' W => ASeq P G n l.toArray (l.drop m) ⟨W, env'⟩ (Q .normal))) : AWP P G n (.region id l.toArray true) Q ⟨own, env⟩ := fun w0 R0 R a w ⟨h1, h2, h3, h4⟩ => by
  simp only [treeZ, Bool.and_eq_true, decide_eq_true_eq] at hB
  obtain ⟨⟨hm0, hdp⟩, hlex⟩ := hB
  have hn' : m = l.length := by simpa using hm0
  have hdl : (l.drop m).length = l.toArray.size - m := by simp
  have inv0 : HeadInv .any l.toArray m (Array.replicate l.toArray.size false) :=
    ⟨by simp, fun j oj _ hl => (by rw [getD_replicate_false] at hl; cases hl), fun t _ ht => getD_in (by simpa using ht) (getD_replicate_false _ _)⟩
  have H := wpAnyB_ot0 (g := l.toArray.size - m) hm0 ord m _ env own hdp inv0 hb hlex h
  refine wp_region_any hm ?_
  have := wpAny_of_B (w0 := w0) (R0 := R0) (R00 := R) (g := l.toArray.size - m) (Q' := fun e a' w' => ∃ s' R', Q e s' ∧ RSub R R' ∧ St G n w0 R0 s' R' a' w') (fun i o ho d e => dstOk_spec hd i o (by simpa using ho) d e) (fun listed E W R' a' w' g1 g2 g3 g4 g5 hL => by
    obtain ⟨hL1, env', rfl, hL2⟩ := hL
    have := wpAny_of_seq (P := P) (md := .any) (Q' := fun e a' w' => ∃ s' R', Q e s' ∧ RSub R R' ∧ St G n w0 R0 s' R' a' w') (l.drop m) m listed a' w' (fun j => by simp [List.getElem?_drop]) (by rw [hdl]; exact hL1)
      (wpList_of_seq (R00 := R) (K := Q .normal) (fun s' R' a w q r1 r2 => ⟨s', R', q, r1, r2⟩) _ (⟨W, env'⟩ : AState) R' a' w' g1 ⟨g2, g3, g4, g5⟩ hL2)
    rwa [hdl] at this) _ _ _ own R a _ (RSub.refl _) (core_drew h1) h2 h3 h4 H
  rw [show m + (l.toArray.size - m) = l.toArray.size by omega] at this
  exact this
theorem opE_pure {ops : Array Oper} {E : EnvF} {x : AV} (h : OpW P G n own o E x) : OpE P G n own ops o E (fun _ : Unit => True) (fun _ => own) (fun _ => x) :=
  fun w0 R0 R a w h1 h2 h3 => Oper.wp_mono2 (fun a' w' ⟨v, R', e1, e2, e3, e4⟩ => ⟨(), v, R', trivial, e1, e2, e3, e4⟩) (fun _ _ _ h => h) (h w0 R0 R a w h1 h2 fun t ht => h3 t (looks_tmps ht))
end
end Go.AV

set_option linter.unusedVariables false
set_option linter.unusedSimpArgs false
namespace Go.AV
section
variable {P : Program} {G : Nat → Prop} {n : Nat} {own : List Own} {o : Oper}
/-- An owned thing beside the same one whose inner memory (sel) is lent. -/
def OwnC (sel : List Own) : Own → Own → Prop
  | .box b t cs, .box b' t' cs' => b = b' ∧ t = t' ∧ LendC sel cs cs'
  | .arr v t sz es, .arr v' t' sz' es' => v = v' ∧ t = t' ∧ sz = sz' ∧ LendE sel es es'
  | .frz b t cs, .frz b' t' cs' => b = b' ∧ t = t' ∧ LendC sel cs cs'
  | .tab T, .tab T' => T = T'
  | _, _ => False
def OwnsC (sel own own' : List Own) : Prop := own.length = own'.length ∧ ∀ (i : Nat) (q q' : Own), own[i]? = some q → own'[i]? = some q' → OwnC sel q q'
theorem oc_nil {sel : List Own} : OwnsC sel [] [] := ⟨rfl, fun i q q' h => by simp at h⟩
theorem oc_cons {sel a b : List Own} {q q' : Own} (h : OwnC sel q q') (k : OwnsC sel a b) : OwnsC sel (q :: a) (q' :: b) := ⟨by simp [k.1], fun i x y hx hy => by
  cases i with
  | zero => simp at hx hy; subst hx; subst hy; exact h
  | succ i => exact k.2 i x y (by simpa using hx) (by simpa using hy)⟩
theorem oc_blk {sel : List Own} {q q' : Own} (h : OwnC sel q q') : Own.blk q = Own.blk q' := by
  cases q <;> cases q' <;> unfold OwnC at h
  · exact congrArg some h.1
  · exact h.elim
  · exact h.elim
  · exact h.elim
  · exact h.elim
  · exact congrArg Value.ownBlock h.1
  · exact h.elim
  · exact h.elim
  · exact h.elim
  · exact h.elim
  · exact congrArg some h.1
  · exact h.elim
  · exact h.elim
  · exact h.elim
  · exact h.elim
  · rfl
theorem oc_map {sel a b : List Own} (h : OwnsC sel a b) : a.map Own.blk = b.map Own.blk := by
  refine List.ext_getElem? fun i => ?_
  rw [List.getElem?_map, List.getElem?_map]
  cases ha : a[i]? with
  | none =>
    have : b[i]? = none := by rw [List.getElem?_eq_none_iff] at ha ⊢; rw [← h.1]; exact ha
    rw [this]
  | some q =>
    have hi : i < b.length := by rw [← h.1]; exact (List.getElem?_eq_some_iff.1 ha).1
    rw [List.getElem?_eq_getElem hi]
    exact congrArg some (oc_blk (h.2 i q _ ha (List.getElem?_eq_getElem hi)))
theorem oc_fm {sel a b : List Own} (h : OwnsC sel a b) : a.filterMap Own.blk = b.filterMap Own.blk := by
  have := congrArg (List.filterMap id) (oc_map h)
  rwa [List.filterMap_map, List.filterMap_map] at this
theorem denC_lend {sel : List Own} {xs ys : List AV} {w0 : World} {R0 R : RHeap} {w : World} {vs : List Value} (hc : Core G w0 R0 sel R w) (h : DenC R vs xs) (k : LendC sel xs ys) : DenC (lend sel w R) vs ys :=
  ⟨h.1.trans k.1, fun i v y hv hy => by
    have hi : i < xs.length := by rw [k.1]; exact (List.getElem?_eq_some_iff.1 hy).1
    have hx := List.getElem?_eq_getElem hi
    obtain ⟨h1, h2⟩ := h.2 i v _ hv hx
    exact ⟨k.2 i _ y hx hy G w0 R0 R w v hc h1, h2⟩⟩
theorem core_sealC {sel rest rest' : List Own} {w0 : World} {R0 R : RHeap} {w : World} (h : Core G w0 R0 (sel ++ rest) R w) (hG : ∀ b, G b → b ∈ rest.filterMap Own.blk) (hl : OwnsC sel rest rest') : Core G w0 R0 rest' (lend sel w R) w := by
  have hb := core_sealD h hG
  have hs := core_left h
  refine ⟨hb.os, hb.tape, hb.output, hb.size, hb.block, hb.rle, hb.rold, fun q' hq' => ?_, fun q' hq' b hqb => ?_, ?_⟩
  · obtain ⟨i, hi⟩ := List.getElem?_of_mem hq'
    have hir : i < rest.length := by rw [hl.1]; exact (List.getElem?_eq_some_iff.1 hi).1
    have hr := List.getElem?_eq_getElem hir
    have hm := List.mem_of_getElem? hr
    have hoc := hl.2 i _ q' hr hi
    have k1 := hb.owned _ hm
    have k2 := h.owned _ (List.mem_append_right _ hm)
    revert hoc k1 k2
    generalize rest[i] = q
    intro hoc k1 k2
    cases q <;> cases q' <;> unfold OwnC at hoc
    · obtain ⟨rfl, rfl, hc⟩ := hoc
      obtain ⟨_, vs, hv, hd⟩ := k2
      exact ⟨k1.1, vs, hv, denC_lend hs hd hc⟩
    · exact hoc.elim
    · exact hoc.elim
    · exact hoc.elim
    · exact hoc.elim
    · obtain ⟨rfl, rfl, rfl, hc⟩ := hoc
      obtain ⟨_, hlen, xs, hx, hd⟩ := k2
      refine ⟨k1.1, fun e he => ?_, xs, ?_, denC_lend hs hd (lc_flat hc)⟩
      · obtain ⟨j, hj⟩ := List.getElem?_of_mem he
        have hje := List.getElem?_eq_getElem (show j < _ from hc.1.symm ▸ (List.getElem?_eq_some_iff.1 hj).1)
        rw [← (hc.2 j _ e hje hj).1]
        exact hlen _ (List.mem_of_getElem? hje)
      · rw [← hc.1]; exact hx
    · exact hoc.elim
    · exact hoc.elim
    · exact hoc.elim
    · exact hoc.elim
    · obtain ⟨rfl, rfl, hc⟩ := hoc
      obtain ⟨_, vs, hv, hd⟩ := k2
      exact ⟨k1.1, vs, hv, denC_lend hs hd hc⟩
    · exact hoc.elim
    · exact hoc.elim
    · exact hoc.elim
    · exact hoc.elim
    · exact hoc ▸ k1
  · have hm : (some b) ∈ rest'.map Own.blk := List.mem_map.2 ⟨q', hq', hqb⟩
    rw [← oc_map hl] at hm
    obtain ⟨q, hq, hqb2⟩ := List.mem_map.1 hm
    exact hb.fresh q hq b hqb2
  · rw [← oc_fm hl]; exact hb.sep
theorem gspec_sealC {α β : Type} {f : FuncId} {xs : List AV} {inw : List Own} {ok : α → Prop} {O : α → List Own} {V : α → AV} {ok' : β → Prop} {O' : β → List Own} {V' : β → AV} (g : α → β) (S rest : α → List Own) (hs : GSpec P f xs inw ok O V)
    (hok : ∀ a, ok a → ok' (g a)) (hV : ∀ a, ok a → LendTo (S a) (V a) (V' (g a))) (hp : ∀ a, ok a → (O a).Perm (S a ++ rest a)) (hG : ∀ a, ok a → ∀ b, blksOf inw b → b ∈ (rest a).filterMap Own.blk) (hl : ∀ a, ok a → OwnsC (S a) (rest a) (O' (g a))) : GSpec P f xs inw ok' O' V' := fun R w vs hr hd ho hn =>
  (hs R w vs hr hd ho hn).mono fun e w' ⟨a, v, R', h0, h1, h2, h3⟩ => by
    have hc := core_perm h3 (hp a h0)
    exact ⟨g a, v, lend (S a) w' R', hok a h0, h1, hV a h0 _ _ _ R' w' v (core_left hc) h2, core_sealC hc (hG a h0) (hl a h0)⟩
theorem oc_refl {sel : List Own} (q : Own) : OwnC sel q q := by
  cases q with
  | box b t cs => exact ⟨rfl, rfl, lc_refl⟩
  | arr v t sz es => exact ⟨rfl, rfl, rfl, le_refl_e⟩
  | frz b t cs => exact ⟨rfl, rfl, lc_refl⟩
  | tab T => exact rfl
theorem oc_set {sel l : List Own} {i : Nat} {q q' : Own} (hi : l[i]? = some q) (hc : OwnC sel q q') : OwnsC sel l (l.set i q') := ⟨by simp, fun j x y hx hy => by
  by_cases h : i = j
  · subst h
    rw [List.getElem?_set_self (List.getElem?_eq_some_iff.1 hi).1] at hy
    rw [hi] at hx
    injection hx with hx; injection hy with hy; subst hx; subst hy; exact hc
  · rw [List.getElem?_set_ne h, hx] at hy
    injection hy with hy; subst hy; exact oc_refl _⟩
/-- The block at the end of what is owned is sealed; one thing before it holds it. -/
theorem le_sealT {env : List (Nat × AV)} {q : Own} (k i : Nat) (q' : Own) (hi : (own.take k)[i]? = some q) (hc : OwnC (own.drop k) q q') (hG : ∀ b, G b → b ∈ (own.take k).filterMap Own.blk) : Le G n ⟨own, env⟩ ⟨(own.take k).set i q', env⟩ := fun w0 R0 R a w ⟨h1, h2, h3⟩ => by
  have hp : Core G w0 R0 (own.drop k ++ own.take k) R w := core_perm h1 (by conv => lhs; rw [← List.take_append_drop k own]
                                                                            exact List.perm_append_comm)
  exact ⟨lend (own.drop k) w R, lend_sub (core_left hp), core_sealC hp hG (oc_set hi hc), fun t z hz => z.mono (lend_sub (core_left hp)) (h2 t z hz), h3⟩
theorem le_sealO {env : List (Nat × AV)} {sel rest : List Own} {q : Own} (is : List Nat) (i : Nat) (q' : Own) (hp : pick own is = (sel, rest)) (hi : rest[i]? = some q) (hc : OwnC sel q q') (hG : ∀ b, G b → b ∈ rest.filterMap Own.blk) : Le G n ⟨own, env⟩ ⟨rest.set i q', env⟩ := fun w0 R0 R a w ⟨h1, h2, h3⟩ => by
  have hk := core_pick h1 hp
  exact ⟨lend sel w R, lend_sub (core_left hk), core_sealC hk hG (oc_set hi hc), fun t z hz => z.mono (lend_sub (core_left hk)) (h2 t z hz), h3⟩
section
variable {T X : Type} {ocs : T → X → List AV} {cs : T → List AV} {ow : T → X → List Own}
theorem nin_lendE {own : List Own} {l : List T} {xs : List X} (hlc : ∀ p x, (∀ o ∈ ow p x, o ∈ own) → LendC own (ocs p x) (cs p)) (hlen : xs.length = l.length) (hm : ∀ o ∈ nin ow l xs, o ∈ own) : LendE own (nrows ocs l xs) (l.map cs) := by
  refine ⟨by rw [nrows_len hlen, List.length_map], fun j a b ha hb => ?_⟩
  rw [List.getElem?_map] at hb
  cases hp : l[j]? with
  | none => rw [hp] at hb; cases hb
  | some p =>
    rw [hp] at hb
    have hj := (List.getElem?_eq_some_iff.1 hp).1
    obtain ⟨x, hx⟩ : ∃ x, xs[j]? = some x := ⟨_, List.getElem?_eq_getElem (by omega)⟩
    rw [nrows_get hp hx] at ha
    injection ha with ha; injection hb with hb; subst ha; subst hb
    exact hlc p x fun o ho => hm o (nin_mem hp hx o ho)
end
end
end Go.AV

set_option linter.unusedVariables false
set_option linter.unusedSimpArgs false
namespace Go.AV
section
variable {P : Program} {G : Nat → Prop} {n : Nat} {own : List Own} {o : Oper} {E : EnvF}
@[reducible] def byteC (b : UInt8) : List AV := [AV.ik .u8 b.toNat]
theorem flat_byteC : ∀ (bs : List UInt8), (bs.map byteC).flatten = bs.map fun b => AV.ik .u8 b.toNat
  | [] => rfl
  | b :: bs => by rw [List.map_cons, List.flatten_cons, flat_byteC bs]; rfl
theorem conv_bytes {w : World} {oa : Option Addr} {c : Nat} {bs : List UInt8} {src dst e : TypeId} (hs : P.underlying src = some (.slice e)) (he : P.underlying e = some (.int .u8)) (hdst : P.underlying dst = some .string)
    (h : bs ≠ [] → ∃ a, oa = some a ∧ ∀ (j : Nat) (b : UInt8), bs[j]? = some b → w.cell? (a.add j) = some (.int .u8 b.toNat)) :
    (convert src dst (.slice oa bs.length c)).run P w = .ok (.string ⟨bs.toArray⟩) w := by
  cases oa with
  | none =>
    have hb : bs = [] := by
      cases bs with
      | nil => rfl
      | cons b t => obtain ⟨a, ha, _⟩ := h (by simp); cases ha
    subst hb
    exact Go.run_convert_bytes_nil (w := w) (P := P) src e hs he _ _ dst hdst
  | some a =>
    have hl : (loadCells a bs.length).run P w = .ok ((bs.map fun b => (b.toNat : Int)).map (Value.int .u8)).toArray w := by
      have := run_loadCells_list (P := P) (w := w) a ((bs.map fun b => (b.toNat : Int)).map (Value.int .u8)) (fun j v hj => by
        rw [List.getElem?_map, List.getElem?_map] at hj
        cases hb : bs[j]? with
        | none => rw [hb] at hj; cases hj
        | some b =>
          rw [hb] at hj
          injection hj with hj; subst hj
          obtain ⟨a', ha, hc⟩ := h (by intro hn; rw [hn] at hb; simp at hb)
          injection ha with ha; subst ha
          exact hc j b hb)
      simpa using this
    rw [Go.run_convert_bytes_string w src dst e _ _ c hs he hdst, Go.run_bytesToString w a bs.length c _ hl, Go.foldl_push_bytes]
    refine congrArg (fun b => Result.ok (Value.string b) w) ?_
    refine ByteArray.ext ?_
    apply Array.toList_inj.1
    simp [ByteArray.empty, ByteArray.emptyWithCapacity]
    show [] ++ bs.map (fun b => UInt8.ofNat (Int.toNat (b.toNat : Int))) = bs
    rw [List.nil_append]
    conv => rhs; rw [← List.map_id bs]
    refine List.map_congr_left fun b _ => ?_
    rw [Int.toNat_natCast]
    simp
theorem conv_list {R : RHeap} {w : World} {v : Value} {bs : List UInt8} {src dst e : TypeId} (hr : RLe R w) (hd : (AV.list 1 (bs.map byteC)).den R v) (hs : P.underlying src = some (.slice e)) (he : P.underlying e = some (.int .u8)) (hdst : P.underlying dst = some .string) :
    (convert src dst v).run P w = .ok (.string ⟨bs.toArray⟩) w := by
  obtain ⟨oa, c, rfl, h1, h2, _, h4⟩ := hd
  rw [List.length_map]
  refine conv_bytes hs he hdst fun hn => ?_
  obtain ⟨a, ha, hc⟩ := h4 (by intro hm; exact hn (List.map_eq_nil_iff.1 hm))
  refine ⟨a, ha, fun j b hb => ?_⟩
  rw [flat_byteC] at hc
  obtain ⟨u, hu, hx, _⟩ := hc j (AV.ik .u8 b.toNat) (by rw [List.getElem?_map, hb]; rfl)
  rw [rcell_cell hr hu]
  exact congrArg some hx
/-- string(l), l a row of bytes. -/
theorem w_convB {src dst e : TypeId} {p : Operand} {bs : List UInt8} (ho : o.op = .convert src dst p) (hs : P.underlying src = some (.slice e)) (he : P.underlying e = some (.int .u8)) (hd : P.underlying dst = some .string) (hp : Ev E p (AV.list 1 (bs.map byteC))) : OpW P G n own o E (AV.str bs) := opW_val fun R a w hr hv => by
  have h1 := ev_use hp (by simp [ho, Op.operands]) hv
  exact ⟨.string ⟨bs.toArray⟩, by simp [execOp, ho, conv_list hr h1 hs he hd], rfl⟩
theorem w_convBo {src dst e t : TypeId} {p : Operand} {v : Value} {bs : List UInt8} (i : Nat) (hi : own[i]? = some (.arr v t 1 (bs.map byteC))) (ho : o.op = .convert src dst p) (hs : P.underlying src = some (.slice e)) (he : P.underlying e = some (.int .u8)) (hd : P.underlying dst = some .string) (hp : Ev E p (AV.is v)) : OpW P G n own o E (AV.str bs) := opW_core fun w0 R0 R a w hc hv => by
  have h1 : a.eval p = v := ev_use hp (by simp [ho, Op.operands]) hv
  have h2 := conv_list (P := P) (lend_le hc) (arr_list hc i hi) hs he hd
  exact ⟨.string ⟨bs.toArray⟩, by simp [execOp, ho, h1, h2], rfl⟩
end
end Go.AV

set_option linter.unusedVariables false
set_option linter.unusedSimpArgs false
set_option maxRecDepth 100000
namespace Go.Proofs.YtmlmmgeadombbaaGreatDoor
open Go Go.AV Go.M
attribute [local irreducible] OpW OpA OpS AWP FSpec ESpec RetOk RvDen Le Ev GuardIs
theorem within_spec (a b c : Int) : FSpec Tryz.prog 62 [AV.int a, AV.int b, AV.int c] (AV.bool (within a b c)) := by
  refine spec_of_awp Tryz.func62 rfl Tryz.ntmps62 rfl ?_
  refine awp_seq ?_
  refine awp_region ?_
  refine sq_plain rfl rfl rfl (w_assign rfl ev_cb) ?_
  refine sq_nil ?_
  refine awp_seq ?_
  refine awp_region ?_
  refine sq_plain rfl rfl rfl (w_move rfl (ev_tmp rfl)) ?_
  refine sq_plain rfl rfl rfl (w_move rfl (ev_tmp rfl)) ?_
  refine sq_plain rfl rfl rfl (w_geq rfl (ev_tmp rfl) (ev_tmp rfl)) ?_
  refine sq_plain rfl rfl rfl (w_move rfl (ev_tmp rfl)) ?_
  refine sq_grd rfl rfl (guard_t rfl rfl rfl) (fun hc => w_move rfl (ev_tmp rfl)) ?_
  refine sq_grd rfl rfl (guard_t rfl rfl rfl) (fun hc => w_move rfl (ev_tmp rfl)) ?_
  refine sq_grd rfl rfl (guard_t rfl rfl rfl) (fun hc => w_leq rfl (ev_whn rfl hc) (ev_whn rfl hc)) ?_
  refine sq_plain rfl rfl rfl (w_and rfl (ev_tmp rfl) (evif_w rfl)) ?_
  refine sq_plain rfl rfl rfl (w_assign rfl (ev_tmp rfl)) ?_
  refine sq_nil ?_
  refine awp_ret ?_
  exact retR rfl (rv_tmp' rfl (by first | rfl | (refine congrArg AV.bool ?_; simp_all; done)))
theorem l1In_spec (a b c : Int) : FSpec Tryz.prog 109 [AV.int a, AV.int b, AV.int c] (AV.bool (within a b c)) := by
  refine spec_of_awp Tryz.func109 rfl Tryz.ntmps109 rfl ?_
  refine awp_seq ?_
  refine awp_region ?_
  refine sq_plain rfl rfl rfl (w_assign rfl ev_cb) ?_
  refine sq_nil ?_
  refine awp_seq ?_
  refine awp_region ?_
  refine sq_plain rfl rfl rfl (w_move rfl (ev_tmp rfl)) ?_
  refine sq_plain rfl rfl rfl (w_move rfl (ev_tmp rfl)) ?_
  refine sq_plain rfl rfl rfl (w_geq rfl (ev_tmp rfl) (ev_tmp rfl)) ?_
  refine sq_plain rfl rfl rfl (w_move rfl (ev_tmp rfl)) ?_
  refine sq_grd rfl rfl (guard_t rfl rfl rfl) (fun hc => w_move rfl (ev_tmp rfl)) ?_
  refine sq_grd rfl rfl (guard_t rfl rfl rfl) (fun hc => w_move rfl (ev_tmp rfl)) ?_
  refine sq_grd rfl rfl (guard_t rfl rfl rfl) (fun hc => w_leq rfl (ev_whn rfl hc) (ev_whn rfl hc)) ?_
  refine sq_plain rfl rfl rfl (w_and rfl (ev_tmp rfl) (evif_w rfl)) ?_
  refine sq_plain rfl rfl rfl (w_assign rfl (ev_tmp rfl)) ?_
  refine sq_nil ?_
  refine awp_ret ?_
  exact retR rfl (rv_tmp' rfl (by first | rfl | (refine congrArg AV.bool ?_; simp_all; done)))
theorem lowDig_spec (c : UInt8) : FSpec Tryz.prog 173 [AV.byte c] (AV.bool (lowDig c)) := by
  refine spec_of_awp Tryz.func173 rfl Tryz.ntmps173 rfl ?_
  refine awp_seq ?_
  refine awp_region ?_
  refine sq_plain rfl rfl rfl (w_assign rfl ev_cb) ?_
  refine sq_nil ?_
  refine awp_seq ?_
  refine awp_region ?_
  refine sq_plain rfl rfl rfl (w_move rfl (ev_tmp rfl)) ?_
  refine sq_plain rfl rfl rfl (w_geq rfl (ev_tmp rfl) ev_ci) ?_
  refine sq_plain rfl rfl rfl (w_move rfl (ev_tmp rfl)) ?_
  refine sq_grd rfl rfl (guard_t rfl rfl rfl) (fun hc => w_move rfl (ev_tmp rfl)) ?_
  refine sq_grd rfl rfl (guard_t rfl rfl rfl) (fun hc => w_leq rfl (ev_whn rfl hc) ev_ci) ?_
  refine sq_plain rfl rfl rfl (w_and rfl (ev_tmp rfl) (evif_w rfl)) ?_
  refine sq_plain rfl rfl rfl (w_move rfl (ev_tmp rfl)) ?_
  refine sq_grd rfl rfl (guard_f rfl rfl rfl) (fun hc => w_move rfl (ev_tmp rfl)) ?_
  refine sq_grd rfl rfl (guard_f rfl rfl rfl) (fun hc => w_geq rfl (ev_whn rfl hc) ev_ci) ?_
  refine sq_grd rfl rfl (guard_f rfl rfl rfl) (fun hc => w_move rfl (ev_whn rfl hc)) ?_
  refine sq_grd rfl rfl (guard_wt rfl rfl rfl) (fun hc => w_move rfl (ev_tmp rfl)) ?_
  refine sq_grd rfl rfl (guard_wt rfl rfl rfl) (fun hc => w_leq rfl (ev_whn rfl hc) ev_ci) ?_
  refine sq_grd rfl rfl (guard_f rfl rfl rfl) (fun hc => w_and rfl (ev_whn rfl hc) (evif_w2 rfl hc)) ?_
  refine sq_plain rfl rfl rfl (w_or rfl (ev_tmp rfl) (evif_w rfl)) ?_
  refine sq_plain rfl rfl rfl (w_assign rfl (ev_tmp rfl)) ?_
  refine sq_nil ?_
  refine awp_ret ?_
  exact retR rfl (rv_tmp' rfl (by first | rfl | (refine congrArg AV.bool ?_; simp_all; done)))
theorem idxB_ext (s : Str) (c : UInt8) : ESpec Tryz.prog 211 [AV.str s, AV.byte c] (AV.int (idxB s c)) := espec_mk fun R w vs h => by
  obtain ⟨v, u, rfl, h1, h2⟩ := denV_two h
  have e1 : v = .string ⟨s.toArray⟩ := h1
  have e2 : u = .int .u8 c.toNat := h2
  subst e1; subst e2
  refine ⟨.int .i64 (idxB s c), ?_, rfl⟩
  rw [run_callFunc_indexByte Tryz.func211 (by kernel_rfl) (by kernel_rfl) (by kernel_rfl) (by kernel_rfl), run_indexByte_string]
  simp [idxB]
theorem idxB1_spec (s : Str) (c : UInt8) : FSpec Tryz.prog 194 [AV.str s, AV.byte c] (AV.int (idxB s c)) := by
  refine spec_of_awp Tryz.func194 rfl Tryz.ntmps194 rfl ?_
  refine awp_seq ?_
  refine awp_region ?_
  refine sq_plain rfl rfl rfl (w_assign rfl ev_ci) ?_
  refine sq_nil ?_
  refine awp_seq ?_
  refine awp_region ?_
  refine sq_plain rfl rfl rfl (w_move rfl (ev_tmp rfl)) ?_
  refine sq_plain rfl rfl rfl (w_move rfl (ev_tmp rfl)) ?_
  refine sq_plain rfl rfl rfl (w_ext rfl rfl (idxB_ext _ _) (evl_cons (ev_tmp rfl) (evl_cons (ev_tmp rfl) evl_nil))) ?_
  refine sq_plain rfl rfl rfl (w_assign rfl (ev_tmp rfl)) ?_
  refine sq_nil ?_
  refine awp_ret ?_
  exact retR rfl (rv_tmp' rfl (by first | rfl | (refine congrArg AV.bool ?_; simp_all; done)))
theorem idxB_spec (s : Str) (c : UInt8) : FSpec Tryz.prog 174 [AV.str s, AV.byte c] (AV.int (idxB s c)) := by
  refine spec_of_awp Tryz.func174 rfl Tryz.ntmps174 rfl ?_
  refine awp_seq ?_
  refine awp_region ?_
  refine sq_plain rfl rfl rfl (w_assign rfl ev_ci) ?_
  refine sq_nil ?_
  refine awp_seq ?_
  refine awp_region ?_
  refine sq_plain rfl rfl rfl (w_move rfl (ev_tmp rfl)) ?_
  refine sq_plain rfl rfl rfl (w_move rfl (ev_tmp rfl)) ?_
  refine sq_plain rfl rfl rfl (w_call rfl Tryz.call194 rfl (idxB1_spec _ _) (evl_cons (ev_tmp rfl) (evl_cons (ev_tmp rfl) evl_nil))) ?_
  refine sq_plain rfl rfl rfl (w_assign rfl (ev_tmp rfl)) ?_
  refine sq_nil ?_
  refine awp_ret ?_
  exact retR rfl (rv_tmp' rfl (by first | rfl | (refine congrArg AV.bool ?_; simp_all; done)))
theorem hasB_spec (s o : Str) (hs : s.length ≤ 4611686018427387904) : FSpec Tryz.prog 153 [AV.str s, AV.str o] (AV.bool (hasB s o)) := by
  refine spec_of_awp Tryz.func153 rfl Tryz.ntmps153 rfl ?_
  refine awp_seq ?_
  refine awp_region ?_
  refine sq_plain rfl rfl rfl (w_assign rfl ev_cb) ?_
  refine sq_nil ?_
  refine awp_seq ?_
  refine awp_seq ?_
  refine awp_region ?_
  refine sq_plain rfl rfl rfl (w_move rfl (ev_tmp rfl)) ?_
  refine sq_plain rfl rfl rfl (w_slen rfl Tryz.underlying9 (ev_tmp rfl)) ?_
  refine sq_plain rfl rfl rfl (w_move rfl ev_ci) ?_
  refine sq_nil ?_
  refine awp_block ?_
  refine awp_loop_i [(0, _), (1, _), (7, _)] _ (fun (i : Nat) => i ≤ s.length ∧ hasB s o = hasB (s.drop i) o) (fun (i : Nat) => []) (fun (i : Nat) => [(8, AV.int i)]) (fun (i : Nat) => s.length - i) (0) ?_ (le_env ⟨rfl, rfl, rfl, rfl, trivial⟩) ?_
  · exact ⟨Nat.zero_le _, rfl⟩
  intro i hinv
  refine awp_seq ?_
  refine awp_region ?_
  refine sq_plain rfl rfl rfl (w_lss rfl (ev_tmp rfl) (ev_tmp rfl)) ?_
  refine sq_nil ?_
  refine awp_seq ?_
  refine awp_cond (ev_tmp rfl) ?_ ?_
  · intro h9
    have k9 := of_decide_eq_true h9; try simp only [List.length_map] at k9
    have hlt : i < s.length := by have := of_decide_eq_true h9; omega
    obtain ⟨c, hc⟩ := get_some hlt
    refine awp_skip ?_
    refine awp_seq ?_
    refine awp_block ?_
    refine awp_seq ?_
    refine awp_region ?_
    refine sq_plain rfl rfl rfl (w_move rfl (ev_tmp rfl)) ?_
    refine sq_plain rfl rfl rfl (w_assign rfl (ev_tmp rfl)) ?_
    refine sq_nil ?_
    refine awp_seq ?_
    refine awp_region ?_
    refine sq_plain rfl rfl rfl (w_move rfl (ev_tmp rfl)) ?_
    refine sq_plain rfl rfl rfl (w_move rfl (ev_tmp rfl)) ?_
    refine sq_plain rfl rfl rfl (w_sidx rfl Tryz.underlying9 (ev_tmp rfl) (ev_tmp rfl) (by first | omega | ((try simp only [List.length_map, List.length_take, List.length_cons, List.length_nil, chunks_len, szR] at *); omega) | (have hc2 := hc; simp only [Bool.and_eq_true, Bool.or_eq_true, Bool.or_eq_false_iff, Bool.and_eq_false_iff, Bool.not_eq_true', Bool.not_eq_false', decide_eq_true_eq, decide_eq_false_iff_not, beq_iff_eq, bne_iff_ne, List.length_map, List.length_take] at hc2; omega)) (by assumption)) ?_
    refine sq_plain rfl rfl rfl (w_call rfl Tryz.call173 rfl (lowDig_spec _) (evl_cons (ev_tmp rfl) evl_nil)) ?_
    refine sq_plain rfl rfl rfl (w_not rfl (ev_tmp rfl)) ?_
    refine sq_plain rfl rfl rfl (w_move rfl (ev_tmp rfl)) ?_
    refine sq_grd rfl rfl (guard_t rfl rfl rfl) (fun hc => w_move rfl (ev_tmp rfl)) ?_
    refine sq_grd rfl rfl (guard_t rfl rfl rfl) (fun hc => w_move rfl (ev_tmp rfl)) ?_
    refine sq_grd rfl rfl (guard_t rfl rfl rfl) (fun hc => w_move rfl (ev_tmp rfl)) ?_
    refine sq_grd rfl rfl (guard_t rfl rfl rfl) (fun hc => w_sidx rfl Tryz.underlying9 (ev_whn rfl hc) (ev_whn rfl hc) (by first | omega | ((try simp only [List.length_map, List.length_take, List.length_cons, List.length_nil, chunks_len, szR] at *); omega) | (have hc2 := hc; simp only [Bool.and_eq_true, Bool.or_eq_true, Bool.or_eq_false_iff, Bool.and_eq_false_iff, Bool.not_eq_true', Bool.not_eq_false', decide_eq_true_eq, decide_eq_false_iff_not, beq_iff_eq, bne_iff_ne, List.length_map, List.length_take] at hc2; omega)) (by assumption)) ?_
    refine sq_grd rfl rfl (guard_t rfl rfl rfl) (fun hc => w_call rfl Tryz.call174 rfl (idxB_spec _ _) (evl_cons (ev_whn rfl hc) (evl_cons (ev_whn rfl hc) evl_nil))) ?_
    refine sq_grd rfl rfl (guard_t rfl rfl rfl) (fun hc => w_lss rfl (ev_whn rfl hc) ev_ci) ?_
    refine sq_plain rfl rfl rfl (w_and rfl (ev_tmp rfl) (evif_w rfl)) ?_
    refine sq_nil ?_
    refine awp_cond (ev_tmp rfl) ?_ ?_
    · intro h23
      have hfin : hasB s o = false := by rw [hinv.2, drop_some hc, hasB_cons, h23]; rfl
      refine awp_seq ?_
      refine awp_region ?_
      refine sq_plain rfl rfl rfl (w_assign rfl ev_cb) ?_
      refine sq_nil ?_
      refine awp_ret ?_
      exact retR rfl (rv_tmp' rfl (by first | exact congrArg AV.bool hfin.symm | exact congrArg AV.bool (by rw [hinv.2, List.drop_eq_nil_of_le hge]; rfl)))
    · intro h23
      refine awp_skip ?_
      refine awp_region ?_
      refine sq_plain rfl rfl rfl (w_addi rfl (ev_tmp rfl) ev_ci (by first | omega | ((try simp only [List.length_map, List.length_take, List.length_cons, List.length_nil, chunks_len, szR] at *); omega) | (have hc2 := hc; simp only [Bool.and_eq_true, Bool.or_eq_true, Bool.or_eq_false_iff, Bool.and_eq_false_iff, Bool.not_eq_true', Bool.not_eq_false', decide_eq_true_eq, decide_eq_false_iff_not, beq_iff_eq, bne_iff_ne, List.length_map, List.length_take] at hc2; omega))) ?_
      refine sq_plain rfl rfl rfl (w_move rfl (ev_tmp rfl)) ?_
      refine sq_nil ?_
      refine round_end i (i + 1) ?_ ?_ (le_env ⟨rfl, rfl, rfl, rfl, trivial⟩)
      · exact ⟨by omega, by rw [hinv.2, drop_some hc, hasB_cons, h23]; rfl⟩
      · omega
  · intro h9
    have k9 := of_decide_eq_false h9; try simp only [List.length_map] at k9
    have hge : s.length ≤ i := by have := of_decide_eq_false h9; omega
    refine awp_exit ?_
    refine awp_seq ?_
    refine awp_region ?_
    refine sq_plain rfl rfl rfl (w_assign rfl ev_cb) ?_
    refine sq_nil ?_
    refine awp_ret ?_
    exact retR rfl (rv_tmp' rfl (by first | exact congrArg AV.bool hfin.symm | exact congrArg AV.bool (by rw [hinv.2, List.drop_eq_nil_of_le hge]; rfl)))
theorem l3Bytes_spec (s o : Str) (hs : s.length ≤ 4611686018427387904) (ho : o.length ≤ 4611686018427387904) : FSpec Tryz.prog 163 [AV.str s, AV.str o] (AV.bool (l3Bytes s o)) := by
  refine spec_of_awp Tryz.func163 rfl Tryz.ntmps163 rfl ?_
  refine awp_seq ?_
  refine awp_region ?_
  refine sq_plain rfl rfl rfl (w_assign rfl ev_cb) ?_
  refine sq_nil ?_
  refine awp_seq ?_
  refine awp_seq ?_
  refine awp_region ?_
  refine sq_plain rfl rfl rfl (w_assign rfl ev_ci) ?_
  refine sq_nil ?_
  refine awp_block ?_
  refine awp_loop_i [(0, _), (1, _)] _ (fun (i : Nat) => i ≤ s.length ∧ l3Bytes s o = l3Bytes (s.drop i) o) (fun (i : Nat) => []) (fun (i : Nat) => [(5, AV.int i)]) (fun (i : Nat) => s.length - i) (0) ?_ (le_env ⟨rfl, rfl, rfl, trivial⟩) ?_
  · exact ⟨Nat.zero_le _, rfl⟩
  intro i hinv
  have hinv0 := hinv; clear hinv
  refine awp_seq ?_
  refine awp_seq ?_
  refine awp_region ?_
  refine sq_plain rfl rfl rfl (w_move rfl (ev_tmp rfl)) ?_
  refine sq_plain rfl rfl rfl (w_move rfl (ev_tmp rfl)) ?_
  refine sq_plain rfl rfl rfl (w_slen rfl Tryz.underlying9 (ev_tmp rfl)) ?_
  refine sq_plain rfl rfl rfl (w_lss rfl (ev_tmp rfl) (ev_tmp rfl)) ?_
  refine sq_nil ?_
  refine awp_cond (ev_tmp rfl) ?_ ?_
  · intro h11
    have k11 := of_decide_eq_true h11; try simp only [List.length_map] at k11
    have hlt : i < s.length := by have := of_decide_eq_true h11; omega
    obtain ⟨c, hc⟩ := get_some hlt
    refine awp_skip ?_
    refine awp_seq ?_
    refine awp_block ?_
    refine awp_seq ?_
    refine awp_region ?_
    refine sq_plain rfl rfl rfl (w_move rfl (ev_tmp rfl)) ?_
    refine sq_plain rfl rfl rfl (w_move rfl (ev_tmp rfl)) ?_
    refine sq_plain rfl rfl rfl (w_sidx rfl Tryz.underlying9 (ev_tmp rfl) (ev_tmp rfl) (by first | omega | ((try simp only [List.length_map, List.length_take, List.length_cons, List.length_nil, chunks_len, szR] at *); omega) | (have hc2 := hc; simp only [Bool.and_eq_true, Bool.or_eq_true, Bool.or_eq_false_iff, Bool.and_eq_false_iff, Bool.not_eq_true', Bool.not_eq_false', decide_eq_true_eq, decide_eq_false_iff_not, beq_iff_eq, bne_iff_ne, List.length_map, List.length_take] at hc2; omega)) (by assumption)) ?_
    refine sq_plain rfl rfl rfl (w_geq rfl (ev_tmp rfl) ev_ci) ?_
    refine sq_plain rfl rfl rfl (w_move rfl (ev_tmp rfl)) ?_
    refine sq_grd rfl rfl (guard_t rfl rfl rfl) (fun hc => w_move rfl (ev_tmp rfl)) ?_
    refine sq_grd rfl rfl (guard_t rfl rfl rfl) (fun hc => w_move rfl (ev_tmp rfl)) ?_
    refine sq_grd rfl rfl (guard_t rfl rfl rfl) (fun hc => w_sidx rfl Tryz.underlying9 (ev_whn rfl hc) (ev_whn rfl hc) (by first | omega | ((try simp only [List.length_map, List.length_take, List.length_cons, List.length_nil, chunks_len, szR] at *); omega) | (have hc2 := hc; simp only [Bool.and_eq_true, Bool.or_eq_true, Bool.or_eq_false_iff, Bool.and_eq_false_iff, Bool.not_eq_true', Bool.not_eq_false', decide_eq_true_eq, decide_eq_false_iff_not, beq_iff_eq, bne_iff_ne, List.length_map, List.length_take] at hc2; omega)) (by assumption)) ?_
    refine sq_grd rfl rfl (guard_t rfl rfl rfl) (fun hc => w_leq rfl (ev_whn rfl hc) ev_ci) ?_
    refine sq_plain rfl rfl rfl (w_and rfl (ev_tmp rfl) (evif_w rfl)) ?_
    refine sq_plain rfl rfl rfl (w_move rfl (ev_tmp rfl)) ?_
    refine sq_grd rfl rfl (guard_f rfl rfl rfl) (fun hc => w_move rfl (ev_tmp rfl)) ?_
    refine sq_grd rfl rfl (guard_f rfl rfl rfl) (fun hc => w_move rfl (ev_tmp rfl)) ?_
    refine sq_grd rfl rfl (guard_f rfl rfl rfl) (fun hc => w_sidx rfl Tryz.underlying9 (ev_whn rfl hc) (ev_whn rfl hc) (by first | omega | ((try simp only [List.length_map, List.length_take, List.length_cons, List.length_nil, chunks_len, szR] at *); omega) | (have hc2 := hc; simp only [Bool.and_eq_true, Bool.or_eq_true, Bool.or_eq_false_iff, Bool.and_eq_false_iff, Bool.not_eq_true', Bool.not_eq_false', decide_eq_true_eq, decide_eq_false_iff_not, beq_iff_eq, bne_iff_ne, List.length_map, List.length_take] at hc2; omega)) (by assumption)) ?_
    refine sq_grd rfl rfl (guard_f rfl rfl rfl) (fun hc => w_geq rfl (ev_whn rfl hc) ev_ci) ?_
    refine sq_grd rfl rfl (guard_f rfl rfl rfl) (fun hc => w_move rfl (ev_whn rfl hc)) ?_
    refine sq_grd rfl rfl (guard_wt rfl rfl rfl) (fun hc => w_move rfl (ev_tmp rfl)) ?_
    refine sq_grd rfl rfl (guard_wt rfl rfl rfl) (fun hc => w_move rfl (ev_tmp rfl)) ?_
    refine sq_grd rfl rfl (guard_wt rfl rfl rfl) (fun hc => w_sidx rfl Tryz.underlying9 (ev_whn rfl hc) (ev_whn rfl hc) (by first | omega | ((try simp only [List.length_map, List.length_take, List.length_cons, List.length_nil, chunks_len, szR] at *); omega) | (have hc2 := hc; simp only [Bool.and_eq_true, Bool.or_eq_true, Bool.or_eq_false_iff, Bool.and_eq_false_iff, Bool.not_eq_true', Bool.not_eq_false', decide_eq_true_eq, decide_eq_false_iff_not, beq_iff_eq, bne_iff_ne, List.length_map, List.length_take] at hc2; omega)) (by assumption)) ?_
    refine sq_grd rfl rfl (guard_wt rfl rfl rfl) (fun hc => w_leq rfl (ev_whn rfl hc) ev_ci) ?_
    refine sq_grd rfl rfl (guard_f rfl rfl rfl) (fun hc => w_and rfl (ev_whn rfl hc) (evif_w2 rfl hc)) ?_
    refine sq_plain rfl rfl rfl (w_or rfl (ev_tmp rfl) (evif_w rfl)) ?_
    refine sq_plain rfl rfl rfl (w_assign rfl (ev_tmp rfl)) ?_
    refine sq_nil ?_
    refine awp_seq ?_
    refine awp_seq ?_
    refine awp_region ?_
    refine sq_plain rfl rfl rfl (w_assign rfl ev_ci) ?_
    refine sq_nil ?_
    refine awp_block ?_
    refine awp_loop_i2 [(0, _), (1, _), (5, _), (8, _), (9, _), (10, _), (11, _), (14, _), (15, _), (16, _), (17, _), (18, _), (23, _), (24, _), (35, _)] _ (fun (k : Nat) (b : Bool) => k ≤ o.length ∧ (lowDig c || o.any fun d => ((c.toNat : Int) == (d.toNat : Int))) = (b || (o.drop k).any fun d => ((c.toNat : Int) == (d.toNat : Int)))) (fun (k : Nat) (b : Bool) => []) (fun (k : Nat) (b : Bool) => [(6, AV.bool b), (7, AV.int k)]) (fun (k : Nat) (b : Bool) => o.length - k) (0) (lowDig c) ?_ (le_env ⟨rfl, rfl, rfl, rfl, rfl, rfl, rfl, rfl, rfl, rfl, rfl, rfl, rfl, rfl, rfl, rfl, rfl, trivial⟩) ?_
    · exact ⟨Nat.zero_le _, rfl⟩
    intro k b hinv
    refine awp_seq ?_
    refine awp_seq ?_
    refine awp_region ?_
    refine sq_plain rfl rfl rfl (w_move rfl (ev_tmp rfl)) ?_
    refine sq_plain rfl rfl rfl (w_move rfl (ev_tmp rfl)) ?_
    refine sq_plain rfl rfl rfl (w_slen rfl Tryz.underlying9 (ev_tmp rfl)) ?_
    refine sq_plain rfl rfl rfl (w_lss rfl (ev_tmp rfl) (ev_tmp rfl)) ?_
    refine sq_nil ?_
    refine awp_cond (ev_tmp rfl) ?_ ?_
    · intro h39
      have k39 := of_decide_eq_true h39; try simp only [List.length_map] at k39
      have hlt2 : k < o.length := by have := of_decide_eq_true h39; omega
      obtain ⟨d, hd⟩ := get_some hlt2
      refine awp_skip ?_
      refine awp_seq ?_
      refine awp_block ?_
      refine awp_region_any (by kernel_rfl) (by kernel_rfl) rfl ?_
      refine ch_plain rfl rfl (w_move rfl (ev_tmp rfl)) ?_
      refine ch_plain rfl rfl (w_move rfl (ev_tmp rfl)) ?_
      refine ch_grd rfl (guard_f rfl rfl rfl) (fun hc => w_move rfl (ev_tmp rfl)) ?_
      refine ch_grd rfl (guard_f rfl rfl rfl) (fun hc => w_move rfl (ev_tmp rfl)) ?_
      refine ch_grd rfl (guard_f rfl rfl rfl) (fun hc => w_sidx rfl Tryz.underlying9 (ev_whn rfl hc) (ev_whn rfl hc) (by first | omega | ((try simp only [List.length_map, List.length_take, List.length_cons, List.length_nil, chunks_len, szR] at *); omega) | (have hc2 := hc; simp only [Bool.and_eq_true, Bool.or_eq_true, Bool.or_eq_false_iff, Bool.and_eq_false_iff, Bool.not_eq_true', Bool.not_eq_false', decide_eq_true_eq, decide_eq_false_iff_not, beq_iff_eq, bne_iff_ne, List.length_map, List.length_take] at hc2; omega)) (by assumption)) ?_
      refine ch_grd rfl (guard_f rfl rfl rfl) (fun hc => w_move rfl (ev_tmp rfl)) ?_
      refine ch_grd rfl (guard_f rfl rfl rfl) (fun hc => w_move rfl (ev_tmp rfl)) ?_
      refine ch_grd rfl (guard_f rfl rfl rfl) (fun hc => w_sidx rfl Tryz.underlying9 (ev_whn rfl hc) (ev_whn rfl hc) (by first | omega | ((try simp only [List.length_map, List.length_take, List.length_cons, List.length_nil, chunks_len, szR] at *); omega) | (have hc2 := hc; simp only [Bool.and_eq_true, Bool.or_eq_true, Bool.or_eq_false_iff, Bool.and_eq_false_iff, Bool.not_eq_true', Bool.not_eq_false', decide_eq_true_eq, decide_eq_false_iff_not, beq_iff_eq, bne_iff_ne, List.length_map, List.length_take] at hc2; omega)) (by assumption)) ?_
      refine ch_grd rfl (guard_f rfl rfl rfl) (fun hc => w_eql rfl (ev_whn rfl hc) (ev_whn rfl hc)) ?_
      refine ch_plain rfl rfl (w_or rfl (ev_tmp rfl) (evif_w rfl)) ?_
      refine ch_plain rfl rfl (w_assign rfl (ev_tmp rfl)) ?_
      refine ch_nil ?_
      refine awp_region ?_
      refine sq_plain rfl rfl rfl (w_move rfl (ev_tmp rfl)) ?_
      refine sq_plain rfl rfl rfl (w_addi rfl (ev_tmp rfl) ev_ci (by first | omega | ((try simp only [List.length_map, List.length_take, List.length_cons, List.length_nil, chunks_len, szR] at *); omega) | (have hc2 := hc; simp only [Bool.and_eq_true, Bool.or_eq_true, Bool.or_eq_false_iff, Bool.and_eq_false_iff, Bool.not_eq_true', Bool.not_eq_false', decide_eq_true_eq, decide_eq_false_iff_not, beq_iff_eq, bne_iff_ne, List.length_map, List.length_take] at hc2; omega))) ?_
      refine sq_plain rfl rfl rfl (w_assign rfl (ev_tmp rfl)) ?_
      refine sq_nil ?_
      refine round_end2 k b (k + 1) ((b || ((c.toNat : Int) == (d.toNat : Int)))) ?_ ?_ (le_env ⟨rfl, rfl, rfl, rfl, rfl, rfl, rfl, rfl, rfl, rfl, rfl, rfl, rfl, rfl, rfl, rfl, rfl, trivial⟩)
      · exact ⟨by omega, by rw [hinv.2, drop_some hd, List.any_cons, Bool.or_assoc]⟩
      · omega
    · intro h39
      have k39 := of_decide_eq_false h39; try simp only [List.length_map] at k39
      have hge2 : o.length ≤ k := by have := of_decide_eq_false h39; omega
      have hg : (lowDig c || o.any fun d => ((c.toNat : Int) == (d.toNat : Int))) = b := by rw [hinv.2, List.drop_eq_nil_of_le hge2]; simp
      refine awp_exit ?_
      refine awp_seq ?_
      refine awp_region ?_
      refine sq_plain rfl rfl rfl (w_move rfl (ev_tmp rfl)) ?_
      refine sq_plain rfl rfl rfl (w_not rfl (ev_tmp rfl)) ?_
      refine sq_nil ?_
      refine awp_cond (ev_tmp rfl) ?_ ?_
      · intro h53
        have hfin : l3Bytes s o = false := by rw [hinv0.2, drop_some hc, l3Bytes_cons, hg]; cases b <;> simp_all
        refine awp_seq ?_
        refine awp_region ?_
        refine sq_plain rfl rfl rfl (w_assign rfl ev_cb) ?_
        refine sq_nil ?_
        refine awp_ret ?_
        exact retR rfl (rv_tmp' rfl (by first | exact congrArg AV.bool hfin.symm | exact congrArg AV.bool (by rw [hinv0.2, List.drop_eq_nil_of_le hge]; rfl)))
      · intro h53
        have hb : b = true := by cases b <;> simp_all
        refine awp_skip ?_
        refine awp_region ?_
        refine sq_plain rfl rfl rfl (w_move rfl (ev_tmp rfl)) ?_
        refine sq_plain rfl rfl rfl (w_addi rfl (ev_tmp rfl) ev_ci (by first | omega | ((try simp only [List.length_map, List.length_take, List.length_cons, List.length_nil, chunks_len, szR] at *); omega) | (have hc2 := hc; simp only [Bool.and_eq_true, Bool.or_eq_true, Bool.or_eq_false_iff, Bool.and_eq_false_iff, Bool.not_eq_true', Bool.not_eq_false', decide_eq_true_eq, decide_eq_false_iff_not, beq_iff_eq, bne_iff_ne, List.length_map, List.length_take] at hc2; omega))) ?_
        refine sq_plain rfl rfl rfl (w_assign rfl (ev_tmp rfl)) ?_
        refine sq_nil ?_
        refine round_end i (i + 1) ?_ ?_ (le_env ⟨rfl, rfl, rfl, trivial⟩)
        · exact ⟨by omega, by rw [hinv0.2, drop_some hc, l3Bytes_cons, hg, hb]; rfl⟩
        · omega
  · intro h11
    have k11 := of_decide_eq_false h11; try simp only [List.length_map] at k11
    have hge : s.length ≤ i := by have := of_decide_eq_false h11; omega
    refine awp_exit ?_
    refine awp_seq ?_
    refine awp_region ?_
    refine sq_plain rfl rfl rfl (w_assign rfl ev_cb) ?_
    refine sq_nil ?_
    refine awp_ret ?_
    exact retR rfl (rv_tmp' rfl (by first | exact congrArg AV.bool hfin.symm | exact congrArg AV.bool (by rw [hinv0.2, List.drop_eq_nil_of_le hge]; rfl)))
theorem within_iff {a b c : Int} (h : within a b c = true) : b ≤ a ∧ a ≤ c := by
  simp only [within, Bool.and_eq_true, decide_eq_true_eq] at h; exact h
theorem goodKey_spec (s : Str) (hs : s.length ≤ 4611686018427387904) : FSpec Tryz.prog 118 [AV.str s] (AV.bool (goodKey s)) := by
  refine spec_of_awp Tryz.func118 rfl Tryz.ntmps118 rfl ?_
  refine awp_seq ?_
  refine awp_region ?_
  refine sq_plain rfl rfl rfl (w_assign rfl ev_cb) ?_
  refine sq_nil ?_
  refine awp_seq ?_
  refine awp_region ?_
  refine sq_plain rfl rfl rfl (w_move rfl (ev_tmp rfl)) ?_
  refine sq_plain rfl rfl rfl (w_slen rfl Tryz.underlying9 (ev_tmp rfl)) ?_
  refine sq_plain rfl rfl rfl (w_call rfl Tryz.call62 rfl (within_spec _ _ _) (evl_cons (ev_tmp rfl) (evl_cons ev_ci (evl_cons ev_ci evl_nil)))) ?_
  refine sq_plain rfl rfl rfl (w_move rfl (ev_tmp rfl)) ?_
  refine sq_grd rfl rfl (guard_t rfl rfl rfl) (fun hc => w_move rfl (ev_tmp rfl)) ?_
  refine sq_grd rfl rfl (guard_t rfl rfl rfl) (fun hc => w_call rfl Tryz.call153 rfl (hasB_spec _ _ (by omega)) (evl_cons (ev_whn rfl hc) (evl_cons (ev_cs' (l := [46, 47]) rfl) evl_nil))) ?_
  refine sq_plain rfl rfl rfl (w_and rfl (ev_tmp rfl) (evif_w rfl)) ?_
  refine sq_plain rfl rfl rfl (w_assign rfl (ev_tmp rfl)) ?_
  refine sq_nil ?_
  refine awp_ret ?_
  exact retR rfl (rv_tmp' rfl (by first | rfl | (refine congrArg AV.bool ?_; simp_all; done)))
theorem goodVal_spec (s : Str) (hs : s.length ≤ 4611686018427387904) : FSpec Tryz.prog 138 [AV.str s] (AV.bool (goodVal s)) := by
  refine spec_of_awp Tryz.func138 rfl Tryz.ntmps138 rfl ?_
  refine awp_seq ?_
  refine awp_region ?_
  refine sq_plain rfl rfl rfl (w_assign rfl ev_cb) ?_
  refine sq_nil ?_
  refine awp_seq ?_
  refine awp_region ?_
  refine sq_plain rfl rfl rfl (w_move rfl (ev_tmp rfl)) ?_
  refine sq_plain rfl rfl rfl (w_slen rfl Tryz.underlying9 (ev_tmp rfl)) ?_
  refine sq_plain rfl rfl rfl (w_leq rfl (ev_tmp rfl) ev_ci) ?_
  refine sq_plain rfl rfl rfl (w_move rfl (ev_tmp rfl)) ?_
  refine sq_grd rfl rfl (guard_t rfl rfl rfl) (fun hc => w_move rfl (ev_tmp rfl)) ?_
  refine sq_grd rfl rfl (guard_t rfl rfl rfl) (fun hc => w_call rfl Tryz.call153 rfl (hasB_spec _ _ (by omega)) (evl_cons (ev_whn rfl hc) (evl_cons (ev_cs' (l := [46, 45, 44, 95]) rfl) evl_nil))) ?_
  refine sq_plain rfl rfl rfl (w_and rfl (ev_tmp rfl) (evif_w rfl)) ?_
  refine sq_plain rfl rfl rfl (w_assign rfl (ev_tmp rfl)) ?_
  refine sq_nil ?_
  refine awp_ret ?_
  exact retR rfl (rv_tmp' rfl (by first | rfl | (refine congrArg AV.bool ?_; simp_all; done)))
theorem l3Key_spec (s : Str) (hs : s.length ≤ 4611686018427387904) : FSpec Tryz.prog 143 [AV.str s] (AV.bool (l3Key s)) := by
  refine spec_of_awp Tryz.func143 rfl Tryz.ntmps143 rfl ?_
  refine awp_seq ?_
  refine awp_region ?_
  refine sq_plain rfl rfl rfl (w_assign rfl ev_cb) ?_
  refine sq_nil ?_
  refine awp_seq ?_
  refine awp_region ?_
  refine sq_plain rfl rfl rfl (w_move rfl (ev_tmp rfl)) ?_
  refine sq_plain rfl rfl rfl (w_slen rfl Tryz.underlying9 (ev_tmp rfl)) ?_
  refine sq_plain rfl rfl rfl (w_call rfl Tryz.call109 rfl (l1In_spec _ _ _) (evl_cons (ev_tmp rfl) (evl_cons ev_ci (evl_cons ev_ci evl_nil)))) ?_
  refine sq_plain rfl rfl rfl (w_move rfl (ev_tmp rfl)) ?_
  refine sq_grd rfl rfl (guard_t rfl rfl rfl) (fun hc => w_move rfl (ev_tmp rfl)) ?_
  refine sq_grd rfl rfl (guard_t rfl rfl rfl) (fun hc => w_call rfl Tryz.call163 rfl (l3Bytes_spec _ _ (by omega) (by decide)) (evl_cons (ev_whn rfl hc) (evl_cons (ev_cs' (l := [46, 47]) rfl) evl_nil))) ?_
  refine sq_plain rfl rfl rfl (w_and rfl (ev_tmp rfl) (evif_w rfl)) ?_
  refine sq_plain rfl rfl rfl (w_assign rfl (ev_tmp rfl)) ?_
  refine sq_nil ?_
  refine awp_ret ?_
  exact retR rfl (rv_tmp' rfl (by first | rfl | (refine congrArg AV.bool ?_; simp_all; done)))
end Go.Proofs.YtmlmmgeadombbaaGreatDoor

set_option linter.unusedVariables false
set_option linter.unusedSimpArgs false
set_option maxRecDepth 100000
namespace Go.Proofs.YtmlmmgeadombbaaGreatDoor
open Go Go.AV Go.M
attribute [local irreducible] OpW OpA OpS AWP FSpec ESpec RetOk RvDen Le Ev GuardIs
theorem indexFuncOp_spec (l : List TOp) (pre : TOp → Prop) (f : TOp → Bool) (hp : ∀ x ∈ l, pre x) : FSpec Tryz.prog 137 [AV.list 4 (l.map TOp.cs), AV.fun1 Tryz.prog pre (fun a => AV.agg a.cs) (fun a => AV.bool (f a))] (AV.int (idxFrom f l 0)) := by
  refine spec_of_awp Tryz.func137 rfl Tryz.ntmps137 rfl ?_
  refine awp_len (t := 0) rfl fun hl => ?_
  try simp only [List.length_map] at hl
  refine awp_seq ?_
  refine awp_region ?_
  refine sq_plain rfl rfl rfl (w_assign rfl ev_ci) ?_
  refine sq_nil ?_
  refine awp_seq ?_
  refine awp_seq ?_
  refine awp_region ?_
  refine sq_plain rfl rfl rfl (w_move rfl (ev_tmp rfl)) ?_
  refine sq_plain rfl rfl rfl (w_llen rfl Tryz.underlying24 (ev_tmp rfl)) ?_
  refine sq_plain rfl rfl rfl (w_move rfl ev_ci) ?_
  refine sq_nil ?_
  refine awp_block ?_
  refine awp_loop_i [(0, _), (1, _), (7, _)] _ (fun (i : Nat) => i ≤ l.length ∧ idxFrom f l 0 = idxFrom f (l.drop i) i) (fun (i : Nat) => []) (fun (i : Nat) => [(8, AV.int i)]) (fun (i : Nat) => l.length - i) (0) ?_ (le_env ⟨rfl, rfl, rfl, rfl, trivial⟩) ?_
  · exact ⟨Nat.zero_le _, rfl⟩
  intro i hinv
  refine awp_seq ?_
  refine awp_region ?_
  refine sq_plain rfl rfl rfl (w_lss rfl (ev_tmp rfl) (ev_tmp rfl)) ?_
  refine sq_nil ?_
  refine awp_seq ?_
  refine awp_cond (ev_tmp rfl) ?_ ?_
  · intro h9
    have k9 := of_decide_eq_true h9; try simp only [List.length_map] at k9
    have hlt : i < l.length := by omega
    obtain ⟨x, hx⟩ := get_some hlt
    refine awp_skip ?_
    refine awp_seq ?_
    refine awp_block ?_
    refine awp_seq ?_
    refine awp_region ?_
    refine sq_plain rfl rfl rfl (w_move rfl (ev_tmp rfl)) ?_
    refine sq_plain rfl rfl rfl (w_assign rfl (ev_tmp rfl)) ?_
    refine sq_nil ?_
    refine awp_seq ?_
    refine awp_region ?_
    refine sq_plain rfl rfl rfl (w_move rfl (ev_tmp rfl)) ?_
    refine sq_plain rfl rfl rfl (w_move rfl (ev_tmp rfl)) ?_
    refine sq_plain rfl rfl rfl (w_move rfl (ev_tmp rfl)) ?_
    refine sq_plain rfl rfl rfl (w_idxm rfl Tryz.underlying24 Tryz.sizeOf55 (ev_tmp rfl) (ev_tmp rfl) hx (by first | omega | ((try simp only [List.length_map, List.length_take, List.length_cons, List.length_nil, chunks_len, szR] at *); omega) | (have hc2 := hc; simp only [Bool.and_eq_true, Bool.or_eq_true, Bool.or_eq_false_iff, Bool.and_eq_false_iff, Bool.not_eq_true', Bool.not_eq_false', decide_eq_true_eq, decide_eq_false_iff_not, beq_iff_eq, bne_iff_ne, List.length_map, List.length_take] at hc2; omega))) ?_
    refine sq_plain rfl rfl rfl (w_loadE rfl (ev_tmp rfl) Tryz.isAgg55 Tryz.sizeOf55) ?_
    refine sq_plain rfl rfl rfl (w_callv1 rfl (ev_tmp rfl) x (hp x (List.mem_of_getElem? hx)) (ev_tmp rfl)) ?_
    refine sq_nil ?_
    refine awp_cond (ev_tmp rfl) ?_ ?_
    · intro h16
      refine awp_seq ?_
      refine awp_region ?_
      refine sq_plain rfl rfl rfl (w_move rfl (ev_tmp rfl)) ?_
      refine sq_plain rfl rfl rfl (w_assign rfl (ev_tmp rfl)) ?_
      refine sq_nil ?_
      refine awp_ret ?_
      exact retR rfl (rv_tmp' rfl (by first | exact congrArg AV.int (by rw [hinv.2, drop_some hx, idxFrom, h16]; rfl) | exact congrArg AV.int (by rw [hinv.2, List.drop_eq_nil_of_le hge]; rfl)))
    · intro h16
      refine awp_skip ?_
      refine awp_region ?_
      refine sq_plain rfl rfl rfl (w_addi rfl (ev_tmp rfl) ev_ci (by first | omega | ((try simp only [List.length_map, List.length_take, List.length_cons, List.length_nil, chunks_len, szR] at *); omega) | (have hc2 := hc; simp only [Bool.and_eq_true, Bool.or_eq_true, Bool.or_eq_false_iff, Bool.and_eq_false_iff, Bool.not_eq_true', Bool.not_eq_false', decide_eq_true_eq, decide_eq_false_iff_not, beq_iff_eq, bne_iff_ne, List.length_map, List.length_take] at hc2; omega))) ?_
      refine sq_plain rfl rfl rfl (w_move rfl (ev_tmp rfl)) ?_
      refine sq_nil ?_
      refine round_end i (i + 1) ?_ ?_ (le_env ⟨rfl, rfl, rfl, rfl, trivial⟩)
      · exact ⟨by omega, by rw [hinv.2, drop_some hx, idxFrom, h16]; simp⟩
      · omega
  · intro h9
    have k9 := of_decide_eq_false h9; try simp only [List.length_map] at k9
    have hge : l.length ≤ i := by omega
    refine awp_exit ?_
    refine awp_seq ?_
    refine awp_region ?_
    refine sq_plain rfl rfl rfl (w_assign rfl ev_ci) ?_
    refine sq_nil ?_
    refine awp_ret ?_
    exact retR rfl (rv_tmp' rfl (by first | exact congrArg AV.int (by rw [hinv.2, drop_some hx, idxFrom, h16]; rfl) | exact congrArg AV.int (by rw [hinv.2, List.drop_eq_nil_of_le hge]; rfl)))
theorem containsFuncOp_spec (l : List TOp) (pre : TOp → Prop) (f : TOp → Bool) (hp : ∀ x ∈ l, pre x) : FSpec Tryz.prog 93 [AV.list 4 (l.map TOp.cs), AV.fun1 Tryz.prog pre (fun a => AV.agg a.cs) (fun a => AV.bool (f a))] (AV.bool (l.any f)) := by
  refine spec_of_awp Tryz.func93 rfl Tryz.ntmps93 rfl ?_
  refine awp_seq ?_
  refine awp_region ?_
  refine sq_plain rfl rfl rfl (w_assign rfl ev_cb) ?_
  refine sq_nil ?_
  refine awp_seq ?_
  refine awp_region ?_
  refine sq_plain rfl rfl rfl (w_move rfl (ev_tmp rfl)) ?_
  refine sq_plain rfl rfl rfl (w_move rfl (ev_tmp rfl)) ?_
  refine sq_plain rfl rfl rfl (w_call rfl Tryz.call137 rfl (indexFuncOp_spec _ _ _ (by first | (intros; trivial) | assumption | (intros; first | trivial | (simp_all; done)))) (evl_cons (ev_tmp rfl) (evl_cons (ev_tmp rfl) evl_nil))) ?_
  refine sq_plain rfl rfl rfl (w_geq rfl (ev_tmp rfl) ev_ci) ?_
  refine sq_plain rfl rfl rfl (w_assign rfl (ev_tmp rfl)) ?_
  refine sq_nil ?_
  refine awp_ret ?_
  exact retR rfl (rv_tmp' rfl (by exact congrArg AV.bool (idxFrom_any f l 0 (Int.le_refl 0))))
theorem indexString_spec (l : List Str) (v : Str) : FSpec Tryz.prog 42 [strs l, AV.str v] (AV.int (idxFrom (fun x => v == x) l 0)) := by
  refine spec_of_awp Tryz.func42 rfl Tryz.ntmps42 rfl ?_
  refine awp_len (t := 0) rfl fun hl => ?_
  try simp only [List.length_map] at hl
  refine awp_seq ?_
  refine awp_region ?_
  refine sq_plain rfl rfl rfl (w_assign rfl ev_ci) ?_
  refine sq_nil ?_
  refine awp_seq ?_
  refine awp_seq ?_
  refine awp_region ?_
  refine sq_plain rfl rfl rfl (w_move rfl (ev_tmp rfl)) ?_
  refine sq_plain rfl rfl rfl (w_llen rfl Tryz.underlying34 (ev_tmp rfl)) ?_
  refine sq_plain rfl rfl rfl (w_move rfl ev_ci) ?_
  refine sq_nil ?_
  refine awp_block ?_
  refine awp_loop_i [(0, _), (1, _), (7, _)] _ (fun (i : Nat) => i ≤ l.length ∧ idxFrom (fun x => v == x) l 0 = idxFrom (fun x => v == x) (l.drop i) i) (fun (i : Nat) => []) (fun (i : Nat) => [(8, AV.int i)]) (fun (i : Nat) => l.length - i) (0) ?_ (le_env ⟨rfl, rfl, rfl, rfl, trivial⟩) ?_
  · exact ⟨Nat.zero_le _, rfl⟩
  intro i hinv
  refine awp_seq ?_
  refine awp_region ?_
  refine sq_plain rfl rfl rfl (w_lss rfl (ev_tmp rfl) (ev_tmp rfl)) ?_
  refine sq_nil ?_
  refine awp_seq ?_
  refine awp_cond (ev_tmp rfl) ?_ ?_
  · intro h9
    have k9 := of_decide_eq_true h9; try simp only [List.length_map] at k9
    have hlt : i < l.length := by omega
    obtain ⟨x, hx⟩ := get_some hlt
    refine awp_skip ?_
    refine awp_seq ?_
    refine awp_block ?_
    refine awp_seq ?_
    refine awp_region ?_
    refine sq_plain rfl rfl rfl (w_move rfl (ev_tmp rfl)) ?_
    refine sq_plain rfl rfl rfl (w_assign rfl (ev_tmp rfl)) ?_
    refine sq_nil ?_
    refine awp_seq ?_
    refine awp_region ?_
    refine sq_plain rfl rfl rfl (w_move rfl (ev_tmp rfl)) ?_
    refine sq_plain rfl rfl rfl (w_move rfl (ev_tmp rfl)) ?_
    refine sq_plain rfl rfl rfl (w_move rfl (ev_tmp rfl)) ?_
    refine sq_plain rfl rfl rfl (w_idxm rfl Tryz.underlying34 Tryz.sizeOf9 (ev_tmp rfl) (ev_tmp rfl) hx (by first | omega | ((try simp only [List.length_map, List.length_take, List.length_cons, List.length_nil, chunks_len, szR] at *); omega) | (have hc2 := hc; simp only [Bool.and_eq_true, Bool.or_eq_true, Bool.or_eq_false_iff, Bool.and_eq_false_iff, Bool.not_eq_true', Bool.not_eq_false', decide_eq_true_eq, decide_eq_false_iff_not, beq_iff_eq, bne_iff_ne, List.length_map, List.length_take] at hc2; omega))) ?_
    refine sq_plain rfl rfl rfl (w_loadE1 rfl (ev_tmp rfl) Tryz.isAgg9 rfl) ?_
    refine sq_plain rfl rfl rfl (w_seql rfl (ev_tmp rfl) (ev_tmp rfl)) ?_
    refine sq_nil ?_
    refine awp_cond (ev_tmp rfl) ?_ ?_
    · intro h16
      refine awp_seq ?_
      refine awp_region ?_
      refine sq_plain rfl rfl rfl (w_move rfl (ev_tmp rfl)) ?_
      refine sq_plain rfl rfl rfl (w_assign rfl (ev_tmp rfl)) ?_
      refine sq_nil ?_
      refine awp_ret ?_
      exact retR rfl (rv_tmp' rfl (by first | exact congrArg AV.int (by rw [hinv.2, drop_some hx, idxFrom, h16]; rfl) | exact congrArg AV.int (by rw [hinv.2, List.drop_eq_nil_of_le hge]; rfl)))
    · intro h16
      refine awp_skip ?_
      refine awp_region ?_
      refine sq_plain rfl rfl rfl (w_addi rfl (ev_tmp rfl) ev_ci (by first | omega | ((try simp only [List.length_map, List.length_take, List.length_cons, List.length_nil, chunks_len, szR] at *); omega) | (have hc2 := hc; simp only [Bool.and_eq_true, Bool.or_eq_true, Bool.or_eq_false_iff, Bool.and_eq_false_iff, Bool.not_eq_true', Bool.not_eq_false', decide_eq_true_eq, decide_eq_false_iff_not, beq_iff_eq, bne_iff_ne, List.length_map, List.length_take] at hc2; omega))) ?_
      refine sq_plain rfl rfl rfl (w_move rfl (ev_tmp rfl)) ?_
      refine sq_nil ?_
      refine round_end i (i + 1) ?_ ?_ (le_env ⟨rfl, rfl, rfl, rfl, trivial⟩)
      · exact ⟨by omega, by rw [hinv.2, drop_some hx, idxFrom, h16]; simp⟩
      · omega
  · intro h9
    have k9 := of_decide_eq_false h9; try simp only [List.length_map] at k9
    have hge : l.length ≤ i := by omega
    refine awp_exit ?_
    refine awp_seq ?_
    refine awp_region ?_
    refine sq_plain rfl rfl rfl (w_assign rfl ev_ci) ?_
    refine sq_nil ?_
    refine awp_ret ?_
    exact retR rfl (rv_tmp' rfl (by first | exact congrArg AV.int (by rw [hinv.2, drop_some hx, idxFrom, h16]; rfl) | exact congrArg AV.int (by rw [hinv.2, List.drop_eq_nil_of_le hge]; rfl)))
end Go.Proofs.YtmlmmgeadombbaaGreatDoor

set_option linter.unusedVariables false
set_option linter.unusedSimpArgs false
set_option maxRecDepth 100000
namespace Go.Proofs.YtmlmmgeadombbaaGreatDoor
open Go Go.AV Go.M
attribute [local irreducible] OpW OpA OpS AWP FSpec ESpec RetOk RvDen Le Ev GuardIs
theorem l3Val_spec (s : Str) (hs : s.length ≤ 4611686018427387904) : FSpec Tryz.prog 144 [AV.str s] (AV.bool (l3Val s)) := by
  refine spec_of_awp Tryz.func144 rfl Tryz.ntmps144 rfl ?_
  refine awp_seq ?_
  refine awp_region ?_
  refine sq_plain rfl rfl rfl (w_assign rfl ev_cb) ?_
  refine sq_nil ?_
  refine awp_seq ?_
  refine awp_region ?_
  refine sq_plain rfl rfl rfl (w_move rfl (ev_tmp rfl)) ?_
  refine sq_plain rfl rfl rfl (w_slen rfl Tryz.underlying9 (ev_tmp rfl)) ?_
  refine sq_plain rfl rfl rfl (w_leq rfl (ev_tmp rfl) ev_ci) ?_
  refine sq_plain rfl rfl rfl (w_move rfl (ev_tmp rfl)) ?_
  refine sq_grd rfl rfl (guard_t rfl rfl rfl) (fun hc => w_move rfl (ev_tmp rfl)) ?_
  refine sq_grd rfl rfl (guard_t rfl rfl rfl) (fun hc => w_call rfl Tryz.call163 rfl (l3Bytes_spec _ _ (by omega) (by decide)) (evl_cons (ev_whn rfl hc) (evl_cons (ev_cs' (l := [46, 45, 44, 95]) rfl) evl_nil))) ?_
  refine sq_plain rfl rfl rfl (w_and rfl (ev_tmp rfl) (evif_w rfl)) ?_
  refine sq_plain rfl rfl rfl (w_assign rfl (ev_tmp rfl)) ?_
  refine sq_nil ?_
  refine awp_ret ?_
  exact retR rfl (rv_tmp' rfl (by first | rfl | (refine congrArg AV.bool ?_; simp_all; done)))
end Go.Proofs.YtmlmmgeadombbaaGreatDoor

namespace Go.Proofs
open Go.Shelf
set_option linter.unusedVariables false
def Tryz.itoa_ren : Go.Shelf.Ren := ⟨fun | 171 => 96 | 243 => 139 | 246 => 160 | 283 => 187 | 284 => 188 | 285 => 189 | 286 => 190 | 129 => 186 | 317 => 207 | 318 => 208 | 319 => 209 | 320 => 210 | 337 => 216 | 338 => 217 | n => n, fun | 3 => 3 | 9 => 9 | 2 => 2 | 4 => 4 | 171 => 153 | 0 => 0 | 53 => 59 | 37 => 22 | 5 => 5 | 173 => 155 | 212 => 172 | 51 => 151 | 20 => 20 | 213 => 173 | 46 => 124 | 232 => 187 | 233 => 188 | n => n, fun | 17 => 3 | 18 => 6 | 19 => 7 | n => n⟩
theorem Tryz.itoa : Go.Proofs.LaysM.n171 Tryz.prog Tryz.itoa_ren := {
  mixed := by kernel_rfl
  f129 := Tryz.func186.trans (congrArg some (by kernel_rfl))
  f171 := Tryz.func96.trans (congrArg some (by kernel_rfl))
  f243 := Tryz.func139.trans (congrArg some (by kernel_rfl))
  f246 := Tryz.func160.trans (congrArg some (by kernel_rfl))
  f283 := Tryz.func187.trans (congrArg some (by kernel_rfl))
  f284 := Tryz.func188.trans (congrArg some (by kernel_rfl))
  f285 := Tryz.func189.trans (congrArg some (by kernel_rfl))
  f286 := Tryz.func190.trans (congrArg some (by kernel_rfl))
  f317 := Tryz.func207.trans (congrArg some (by kernel_rfl))
  f318 := Tryz.func208.trans (congrArg some (by kernel_rfl))
  f319 := Tryz.func209.trans (congrArg some (by kernel_rfl))
  f320 := Tryz.func210.trans (congrArg some (by kernel_rfl))
  f337 := Tryz.func216.trans (congrArg some (by kernel_rfl))
  f338 := Tryz.func217.trans (congrArg some (by kernel_rfl))
  t0 := Tryz.underlying0
  a0 := Tryz.isAgg0
  z0 := Tryz.sizeOf0
  v0 := Tryz.zeroValue0
  t2 := Tryz.underlying2
  a2 := Tryz.isAgg2
  z2 := Tryz.sizeOf2
  v2 := Tryz.zeroValue2
  t3 := Tryz.underlying3
  a3 := Tryz.isAgg3
  z3 := Tryz.sizeOf3
  v3 := Tryz.zeroValue3
  t4 := Tryz.underlying4
  a4 := Tryz.isAgg4
  z4 := Tryz.sizeOf4
  v4 := Tryz.zeroValue4
  t5 := Tryz.underlying5
  a5 := Tryz.isAgg5
  z5 := Tryz.sizeOf5
  v5 := Tryz.zeroValue5
  t9 := Tryz.underlying9
  a9 := Tryz.isAgg9
  z9 := Tryz.sizeOf9
  v9 := Tryz.zeroValue9
  t20 := Tryz.underlying20
  a20 := Tryz.isAgg20
  z20 := Tryz.sizeOf20
  v20 := Tryz.zeroValue20
  t37 := Tryz.underlying22
  a37 := Tryz.isAgg22
  z37 := Tryz.sizeOf22
  v37 := Tryz.zeroValue22
  t46 := Tryz.underlying124
  a46 := Tryz.isAgg124
  z46 := Tryz.sizeOf124
  v46 := Tryz.zeroValue124
  t51 := Tryz.underlying151
  a51 := Tryz.isAgg151
  z51 := Tryz.sizeOf151
  v51 := Tryz.zeroValue151
  t53 := Tryz.underlying59
  a53 := Tryz.isAgg59
  z53 := Tryz.sizeOf59
  v53 := Tryz.zeroValue59
  t171 := Tryz.underlying153
  a171 := Tryz.isAgg153
  z171 := Tryz.sizeOf153
  v171 := Tryz.zeroValue153
  t173 := Tryz.underlying155
  a173 := Tryz.isAgg155
  z173 := Tryz.sizeOf155
  v173 := Tryz.zeroValue155
  t212 := Tryz.underlying172
  a212 := Tryz.isAgg172
  z212 := Tryz.sizeOf172
  v212 := Tryz.zeroValue172
  t213 := Tryz.underlying173
  a213 := Tryz.isAgg173
  z213 := Tryz.sizeOf173
  t232 := Tryz.underlying187
  a232 := Tryz.isAgg187
  z232 := Tryz.sizeOf187
  v232 := Tryz.zeroValue187
  t233 := Tryz.underlying188
  a233 := Tryz.isAgg188
  z233 := Tryz.sizeOf188
  v233 := Tryz.zeroValue188
  g17 := by kernel_rfl
  g18 := by kernel_rfl
  g19 := by kernel_rfl
  i0 := by kernel_rfl
  i2 := by kernel_rfl
  i3 := by kernel_rfl
  i4 := by kernel_rfl
  i5 := by kernel_rfl
  i9 := by kernel_rfl
  i20 := by kernel_rfl
  i37 := by kernel_rfl
  i46 := by kernel_rfl
  i51 := by kernel_rfl
  i53 := by kernel_rfl
  i171 := by kernel_rfl
  i173 := by kernel_rfl
  i212 := by kernel_rfl
  i232 := by kernel_rfl
  i233 := by kernel_rfl
  m17 := by kernel_rfl
  m18 := by kernel_rfl
  m19 := by kernel_rfl }
end Go.Proofs

set_option linter.unusedVariables false
set_option linter.unusedSimpArgs false
set_option maxRecDepth 100000
namespace Go.Proofs.YtmlmmgeadombbaaGreatDoor
open Go Go.AV Go.M
attribute [local irreducible] OpW OpA OpS AWP FSpec ESpec GSpec OpE RetOk RetOkG RvDen Le Ev GuardIs SrcIs Int.tmod Int.tdiv IntKind.wrap
def tabW (w : World) : Prop := Lib.TabIs Tryz.prog w "internal/strconv.uint64pow10" .u64 Lib.pow10Tab
theorem tabW_heap {W w' : World} (h : tabW W) (hw : RLe (heapR W) w') : tabW w' := tabIs_heap h hw
theorem tabW_head {W : World} {rest : List (String × DataW Unit)} (h : laidMet Tryz.prog (("internal/strconv.uint64pow10", Lib.tabData .u64 Lib.pow10Tab) :: rest) W) : tabW W :=
  Lib.tabIs_of_head (g := 3) (t := 172) (by kernel_rfl) (by kernel_rfl) Tryz.underlying172 Tryz.underlying59 (by kernel_rfl) (by kernel_rfl) h
theorem itoa_spec (n : Int) (h : -9223372036854775808 ≤ n ∧ n ≤ 9223372036854775807) : FSpec Tryz.prog 96 [AV.wt tabW (AV.int n)] (AV.str (itoaD n)) :=
  fspec_wt fun R w v hr hv hT => by
    rw [show v = Value.int .i64 n from hv]
    refine (Any.strconv_Itoa Tryz.itoa n h.1 h.2 w hT).mono ?_
    rintro e w' ⟨rfl, k, os, rfl⟩
    exact ⟨_, rfl, rfl, below_grown w k os⟩
theorem l1Num_spec (n : Nat) : n ≤ 1000000000000 → FSpec Tryz.prog 117 [AV.int n] (AV.str (decD n)) := by
  induction n using Nat.strongRecOn with
  | ind n ih =>
    intro hn
    refine spec_of_awp Tryz.func117 rfl Tryz.ntmps117 rfl ?_
    refine awp_seq ?_
    refine awp_region ?_
    refine sq_plain rfl rfl rfl (w_assign rfl (ev_cs' (l := []) rfl)) ?_
    refine sq_nil ?_
    refine awp_seq ?_
    refine awp_seq ?_
    refine awp_region ?_
    refine sq_plain rfl rfl rfl (w_move rfl (ev_tmp rfl)) ?_
    refine sq_plain rfl rfl rfl (w_lss rfl (ev_tmp rfl) ev_ci) ?_
    refine sq_nil ?_
    refine awp_cond (ev_tmp rfl) ?_ ?_
    · intro h4
      have k4 := of_decide_eq_true h4; try simp only [List.length_map] at k4
      have hn10 : n < 10 := by omega
      refine awp_seq ?_
      refine awp_region ?_
      refine sq_plain rfl rfl rfl (w_move rfl (ev_tmp rfl)) ?_
      refine sq_plain rfl rfl rfl (w_addi rfl ev_ci (ev_tmp rfl) (by first | omega | ((try simp only [List.length_map, List.length_take, List.length_cons, List.length_nil, chunks_len, szR] at *); omega) | (have hc2 := hc; simp only [Bool.and_eq_true, Bool.or_eq_true, Bool.or_eq_false_iff, Bool.and_eq_false_iff, Bool.not_eq_true', Bool.not_eq_false', decide_eq_true_eq, decide_eq_false_iff_not, beq_iff_eq, bne_iff_ne, List.length_map, List.length_take] at hc2; omega))) ?_
      refine sq_plain rfl rfl rfl (w_conv rfl (by kernel_rfl) Tryz.underlying5 (ev_tmp rfl)) ?_
      rw [dig1]
      refine sq_plain rfl rfl rfl (w_bslice rfl Tryz.underlying22 Tryz.sizeOf5 Tryz.zeroValue5 rfl rfl rfl rfl (bp_cons (ev_tmp rfl) (as_ik _ _) bp_nil) rfl rfl) ?_
      refine sq_plain rfl rfl rfl (w_convB (bs := [UInt8.ofNat (48 + n)]) rfl Tryz.underlying22 Tryz.underlying5 Tryz.underlying9 (ev_tmp rfl)) ?_
      refine sq_plain rfl rfl rfl (w_assign rfl (ev_tmp rfl)) ?_
      refine sq_nil ?_
      refine awp_ret ?_
      exact retR rfl (rv_tmp' rfl (by first | exact congrArg AV.str (decD_small hn10).symm | exact congrArg AV.str (decD_big hn10).symm))
    · intro h4
      have k4 := of_decide_eq_false h4; try simp only [List.length_map] at k4
      have hn10 : ¬ n < 10 := by omega
      have hdl := decD_len (k := 12) (n := n / 10) (by omega) (by decide)
      refine awp_skip ?_
      refine awp_seq ?_
      refine awp_region_any (by kernel_rfl) (by kernel_rfl) rfl ?_
      refine ch_plain rfl rfl (w_move rfl (ev_tmp rfl)) ?_
      refine ch_plain rfl rfl (w_quo rfl (ev_tmp rfl) ev_ci (by decide)) ?_
      rw [quo10 hn]
      refine ch_plain rfl rfl (w_call rfl Tryz.call117 rfl (ih (n / 10) (by omega) (by omega)) (evl_cons (ev_tmp rfl) evl_nil)) ?_
      refine ch_plain rfl rfl (w_move rfl (ev_tmp rfl)) ?_
      refine ch_plain rfl rfl (w_rem rfl (ev_tmp rfl) ev_ci (by decide)) ?_
      refine ch_plain rfl rfl (w_addi rfl ev_ci (ev_tmp rfl) (by rw [tmod10]; omega)) ?_
      refine ch_plain rfl rfl (w_conv rfl (by kernel_rfl) Tryz.underlying5 (ev_tmp rfl)) ?_
      rw [dig2]
      refine ch_plain rfl rfl (w_bslice rfl Tryz.underlying22 Tryz.sizeOf5 Tryz.zeroValue5 rfl rfl rfl rfl (bp_cons (ev_tmp rfl) (as_ik _ _) bp_nil) rfl rfl) ?_
      refine ch_plain rfl rfl (w_convB (bs := [UInt8.ofNat (48 + n % 10)]) rfl Tryz.underlying22 Tryz.underlying5 Tryz.underlying9 (ev_tmp rfl)) ?_
      refine ch_plain rfl rfl (w_cat rfl (ev_tmp rfl) (ev_tmp rfl) (by first | omega | (simp only [List.length_append, List.length_take, List.length_drop, List.length_cons, List.length_nil]; omega))) ?_
      refine ch_plain rfl rfl (w_assign rfl (ev_tmp rfl)) ?_
      refine ch_nil ?_
      refine awp_ret ?_
      exact retR rfl (rv_tmp' rfl (by first | exact congrArg AV.str (decD_small hn10).symm | exact congrArg AV.str (decD_big hn10).symm))
end Go.Proofs.YtmlmmgeadombbaaGreatDoor

set_option linter.unusedVariables false
set_option linter.unusedSimpArgs false
set_option maxRecDepth 100000
namespace Go.Proofs.YtmlmmgeadombbaaGreatDoor
open Go Go.AV Go.M
attribute [local irreducible] OpW OpA OpS AWP FSpec ESpec RetOk RvDen Le Ev GuardIs
end Go.Proofs.YtmlmmgeadombbaaGreatDoor

set_option linter.unusedVariables false
set_option linter.unusedSimpArgs false
set_option maxRecDepth 100000
namespace Go.Proofs.YtmlmmgeadombbaaGreatDoor
open Go Go.AV Go.M
attribute [local irreducible] OpW OpA OpS AWP FSpec ESpec RetOk RvDen Le Ev GuardIs
theorem sizeL_keys {l : List TWrite} (h : sizeL TWrite.size l ≤ 4194304) : ∀ k ∈ wKeys l, k.length ≤ 4611686018427387904 := fun k hk => by
  obtain ⟨w, hw, rfl⟩ := List.mem_map.1 hk
  have := sizeL_mem (f := TWrite.size) hw
  have h2 : w.size = w.Key.length + w.Val.length := rfl
  omega
end Go.Proofs.YtmlmmgeadombbaaGreatDoor

set_option linter.unusedVariables false
namespace Go.M
open Go.AV
def digs (k : Nat) (out : Str) : Str := if h : 0 < k then digs (k / 10) (UInt8.ofNat (48 + k % 10) :: out) else out
termination_by k
decreasing_by omega
theorem digs_pos {k : Nat} {out : Str} (h : 0 < k) : digs k out = digs (k / 10) (UInt8.ofNat (48 + k % 10) :: out) := by rw [digs, dif_pos h]
theorem digs_zero {k : Nat} {out : Str} (h : ¬ 0 < k) : digs k out = out := by rw [digs, dif_neg h]
def markText (k : Int) : Str := if k ≤ 0 then [109, 48] else 109 :: digs k.toNat []
theorem mk_byte {k : Nat} : IntKind.u8.wrap (48 + ((k : Int).tmod 10)) = ((UInt8.ofNat (48 + k % 10)).toNat : Int) := by
  have h1 : (k : Int).tmod 10 = ((k % 10 : Nat) : Int) := by rw [Int.tmod_eq_emod_of_nonneg (by omega)]; omega
  rw [h1]
  have h2 : (UInt8.ofNat (48 + k % 10)).toNat = 48 + k % 10 := by simp; omega
  rw [h2]
  simp only [IntKind.wrap, IntKind.bits, IntKind.signed]; simp; omega
theorem mk_quo {k : Nat} (h : k ≤ 4611686018427387904) : IntKind.i64.wrap ((k : Int).tdiv 10) = ((k / 10 : Nat) : Int) := by
  have h1 : (k : Int).tdiv 10 = ((k / 10 : Nat) : Int) := by rw [Int.tdiv_eq_ediv_of_nonneg (by omega)]; omega
  rw [h1]; exact in64 (by omega)
def m3 (k : Int) : Bool := (k.tmod 3) == 0
/-- n marks, s numbers each, from k on. -/
def marks {α : Type} (f : Int → α) (s : Int) : Nat → Int → List α
  | 0, _ => []
  | n + 1, k => f k :: marks f s n (k + s)
theorem marks_len {α : Type} (f : Int → α) (s : Int) : ∀ (n : Nat) (k : Int), (marks f s n k).length = n
  | 0, _ => rfl
  | n + 1, k => by simp [marks, marks_len f s n]
theorem marks_snoc {α : Type} (f : Int → α) (s : Int) : ∀ (n : Nat) (k : Int), marks f s (n + 1) k = marks f s n k ++ [f (k + s * n)]
  | 0, k => by simp [marks]
  | n + 1, k => by
    rw [marks, marks_snoc f s n (k + s)]
    simp only [marks, List.cons_append]
    have e : k + s + s * (n : Int) = k + s * ((n + 1 : Nat) : Int) := by
      rw [Int.natCast_add, Int.mul_add, Int.natCast_one, Int.mul_one, Int.add_assoc, Int.add_comm s]
    rw [e]
theorem marks_get {α : Type} (f : Int → α) (s : Int) : ∀ (n i : Nat) (k : Int), i < n → (marks f s n k)[i]? = some (f (k + s * i))
  | n + 1, 0, k, _ => by simp [marks]
  | n + 1, i + 1, k, h => by
    have e : k + s + s * (i : Int) = k + s * ((i + 1 : Nat) : Int) := by
      rw [Int.natCast_add, Int.mul_add, Int.natCast_one, Int.mul_one, Int.add_assoc, Int.add_comm s]
    simp only [marks, List.getElem?_cons_succ, marks_get f s n i (k + s) (by omega), e]
theorem drop_get {α β : Type} {f : α → β} {l : List α} {i : Nat} {x : α} (h : l[i]? = some x) : (l.drop i).map f = f x :: (l.drop (i + 1)).map f := by rw [drop_some h]; rfl
theorem marks_step {α : Type} {f : Int → α} {s : Int} {i : Nat} {k : Int} {g : α → List AV} {z : List AV} {B : List (List AV)} (h : g (f (k + s * i)) = z) : (marks f s i k).map g ++ z :: B = (marks f s (i + 1) k).map g ++ B := by
  rw [marks_snoc, List.map_append, List.append_assoc, ← h]; rfl

def mkClock (k : Int) : TClock := ⟨k⟩
def mkLease (k : Int) : TLease := ⟨k, (k + 1), (k + 1 + 1)⟩
def mkWatchAct (k : Int) : TWatchAct := ⟨k, (k + 1), (k + 1 + 1)⟩
def mkWrite (k : Int) : TWrite := ⟨markText k, markText (k + 1), m3 (k + 1 + 1)⟩
def mkDisk (k : Int) : TDisk := ⟨markText k, markText (k + 1)⟩
def mkLock (k : Int) : TLock := ⟨markText k, (k + 1), m3 (k + 1 + 1)⟩
def mkVer (k : Int) : TVer := ⟨k, markText (k + 1), m3 (k + 1 + 1)⟩
def mkTold (k : Int) : TTold := ⟨k, m3 (k + 1), (k + 1 + 1)⟩
def mkDealAct (k : Int) : TDealAct := ⟨k, (k + 1), (k + 1 + 1), (k + 1 + 1 + 1)⟩
def mkOp (k : Int) : TOp := ⟨k, markText (k + 1), markText (k + 1 + 1), (k + 1 + 1 + 1)⟩
def mkGot (k : Int) : TGot := ⟨markText k, markText (k + 1), m3 (k + 1 + 1)⟩
def mkWorldAct (k : Int) : TWorldAct := ⟨k, (k + 1), (k + 1 + 1)⟩
def mkFeedItem (k : Int) : TFeedItem := ⟨k, (k + 1), markText (k + 1 + 1), markText (k + 1 + 1 + 1), m3 (k + 1 + 1 + 1 + 1)⟩
def mkIdx (k : Int) : TIdx := ⟨markText k, (k + 1), (k + 1 + 1)⟩
def mkVLease (k : Int) : TVLease := ⟨k, (k + 1)⟩
def mkRenewAct (k : Int) : TRenewAct := ⟨k, (k + 1), (k + 1 + 1)⟩
def mkLetter (k : Int) : TLetter := ⟨k, (k + 1), (k + 1 + 1), markText (k + 1 + 1 + 1)⟩
def mkWon (k : Int) : TWon := ⟨k, (k + 1)⟩
def mkPollAct (k : Int) : TPollAct := ⟨k, (k + 1), (k + 1 + 1)⟩
def TRec.ocs (c : TRec) (x : Value × Value) : List AV := [AV.int c.Kind, AV.int c.Txn, AV.int c.Time, AV.int c.Lead, AV.is x.1, AV.is x.2, AV.bool c.Yes]
def TRec.mark (c : TRec) (k : Int) : TRec := ⟨c.Kind, c.Txn, c.Time, c.Lead, marks markText 1 c.Reads.length (k), marks mkWrite 3 c.Writes.length (k + 1 * c.Reads.length), c.Yes⟩
def TRec.markN (c : TRec) (k : Int) : Int := k + 1 * c.Reads.length + 3 * c.Writes.length
def TPlaces.ocs (c : TPlaces) (x : Value × Value) : List AV := [AV.int c.Ver, AV.is x.1, AV.is x.2]
def TPlaces.mark (c : TPlaces) (k : Int) : TPlaces := ⟨c.Ver, marks markText 1 c.Cuts.length (k), marks (fun k : Int => k) 1 c.Groups.length (k + 1 * c.Cuts.length)⟩
def TPlaces.markN (c : TPlaces) (k : Int) : Int := k + 1 * c.Cuts.length + 1 * c.Groups.length
def TMove.ocs (c : TMove) (x : Value × Value) : List AV := [AV.str c.Low, AV.str c.High, AV.int c.Phase, AV.is x.1, AV.is x.2, AV.str c.Last, AV.bool c.Over]
def TMove.mark (c : TMove) (k : Int) : TMove := ⟨c.Low, c.High, c.Phase, marks mkWrite 3 c.From.length (k), marks mkWrite 3 c.To.length (k + 3 * c.From.length), c.Last, c.Over⟩
def TMove.markN (c : TMove) (k : Int) : Int := k + 3 * c.From.length + 3 * c.To.length
end Go.M

set_option linter.unusedVariables false
set_option linter.unusedSimpArgs false
set_option maxRecDepth 100000
namespace Go.Proofs.YtmlmmgeadombbaaGreatDoor
open Go Go.AV Go.M
attribute [local irreducible] OpW OpA OpS AWP FSpec ESpec RetOk RvDen Le Ev GuardIs
end Go.Proofs.YtmlmmgeadombbaaGreatDoor

set_option linter.unusedVariables false
set_option linter.unusedSimpArgs false
set_option maxRecDepth 100000
namespace Go.Proofs.YtmlmmgeadombbaaGreatDoor
open Go Go.AV Go.M
attribute [local irreducible] OpW OpA OpS AWP FSpec ESpec GSpec OpE RetOk RetOkG RvDen Le Ev GuardIs
def TRec.ow (c : TRec) (x : Value × Value) : List Own := [.arr x.1 9 1 (c.Reads.map (fun x => [AV.str x])), .arr x.2 79 3 (c.Writes.map TWrite.cs)]
theorem TRec.lc (c : TRec) (x : Value × Value) : LendC (TRec.ow c x) (TRec.ocs c x) c.cs := (lc_cons lt_refl (lc_cons lt_refl (lc_cons lt_refl (lc_cons lt_refl (lc_cons (lt_arr (List.mem_of_getElem? (i := 0) rfl) le_refl_e) (lc_cons (lt_arr (List.mem_of_getElem? (i := 1) rfl) le_refl_e) (lc_cons lt_refl lc_nil)))))))
def TPlaces.ow (c : TPlaces) (x : Value × Value) : List Own := [.arr x.1 9 1 (c.Cuts.map (fun x => [AV.str x])), .arr x.2 3 1 (c.Groups.map (fun x => [AV.int x]))]
theorem TPlaces.lc (c : TPlaces) (x : Value × Value) : LendC (TPlaces.ow c x) (TPlaces.ocs c x) c.cs := (lc_cons lt_refl (lc_cons (lt_arr (List.mem_of_getElem? (i := 0) rfl) le_refl_e) (lc_cons (lt_arr (List.mem_of_getElem? (i := 1) rfl) le_refl_e) lc_nil)))
def TMove.ow (c : TMove) (x : Value × Value) : List Own := [.arr x.1 79 3 (c.From.map TWrite.cs), .arr x.2 79 3 (c.To.map TWrite.cs)]
theorem TMove.lc (c : TMove) (x : Value × Value) : LendC (TMove.ow c x) (TMove.ocs c x) c.cs := (lc_cons lt_refl (lc_cons lt_refl (lc_cons lt_refl (lc_cons (lt_arr (List.mem_of_getElem? (i := 0) rfl) le_refl_e) (lc_cons (lt_arr (List.mem_of_getElem? (i := 1) rfl) le_refl_e) (lc_cons lt_refl (lc_cons lt_refl lc_nil)))))))
end Go.Proofs.YtmlmmgeadombbaaGreatDoor

set_option linter.unusedVariables false
set_option linter.unusedSimpArgs false
set_option maxRecDepth 100000
namespace Go.Proofs.YtmlmmgeadombbaaGreatDoor
open Go Go.AV Go.M
attribute [local irreducible] OpW OpA OpS AWP FSpec ESpec GSpec OpE RetOk RetOkG RvDen Le Ev GuardIs SrcIs
theorem cuts_ok {p : TPlaces} (hs : p.size ≤ 4194304) : ∀ k ∈ p.Cuts, k.length ≤ 4611686018427387904 := fun k hk => by
  have h1 := sizeL_mem (f := fun x : Str => x.length) hk
  unfold TPlaces.size at hs
  omega
theorem inS_facts {p : TPlaces} {i : Int} {n : Int} (h : (!goodPlacesS p || !within i 0 n) = false) : goodPlaces p = true ∧ 0 ≤ i ∧ i ≤ n := by
  rw [← goodPlaces_eq] at h
  unfold within at h
  simp only [Bool.or_eq_false_iff, Bool.not_eq_false', Bool.and_eq_true, decide_eq_true_eq] at h
  exact ⟨h.1, h.2.1, h.2.2⟩
theorem cut_len {p : TPlaces} {m : Nat} (hs : p.size ≤ m) : ∀ k ∈ p.Cuts, k.length ≤ m := fun k hk => by
  have h1 := sizeL_mem (f := fun x : Str => x.length) hk
  unfold TPlaces.size at hs
  omega
end Go.Proofs.YtmlmmgeadombbaaGreatDoor

namespace Go.Proofs
open Go.Shelf
set_option linter.unusedVariables false
def Tryz.itoaS_ren : Go.Shelf.Ren := ⟨fun | 171 => 96 | 243 => 139 | 246 => 160 | 283 => 187 | 284 => 188 | 285 => 189 | 286 => 190 | 129 => 186 | 317 => 207 | 318 => 208 | 319 => 209 | 320 => 210 | 337 => 216 | 338 => 217 | n => n, fun | 3 => 3 | 9 => 9 | 2 => 2 | 4 => 4 | 171 => 153 | 0 => 0 | 53 => 59 | 37 => 22 | 5 => 5 | 173 => 155 | 212 => 172 | 51 => 151 | 20 => 20 | 213 => 173 | 46 => 124 | 232 => 187 | 233 => 188 | n => n, fun | 17 => 3 | 18 => 6 | 19 => 7 | n => n⟩
theorem Tryz.itoaS : Go.Proofs.Lays.n171 Tryz.prog Tryz.itoaS_ren := {
  mixed := by kernel_rfl
  f129 := Tryz.func186.trans (congrArg some (by kernel_rfl))
  f171 := Tryz.func96.trans (congrArg some (by kernel_rfl))
  f243 := Tryz.func139.trans (congrArg some (by kernel_rfl))
  f246 := Tryz.func160.trans (congrArg some (by kernel_rfl))
  f283 := Tryz.func187.trans (congrArg some (by kernel_rfl))
  f284 := Tryz.func188.trans (congrArg some (by kernel_rfl))
  f285 := Tryz.func189.trans (congrArg some (by kernel_rfl))
  f286 := Tryz.func190.trans (congrArg some (by kernel_rfl))
  f317 := Tryz.func207.trans (congrArg some (by kernel_rfl))
  f318 := Tryz.func208.trans (congrArg some (by kernel_rfl))
  f319 := Tryz.func209.trans (congrArg some (by kernel_rfl))
  f320 := Tryz.func210.trans (congrArg some (by kernel_rfl))
  f337 := Tryz.func216.trans (congrArg some (by kernel_rfl))
  f338 := Tryz.func217.trans (congrArg some (by kernel_rfl))
  t0 := Tryz.underlying0
  a0 := Tryz.isAgg0
  z0 := Tryz.sizeOf0
  v0 := Tryz.zeroValue0
  t2 := Tryz.underlying2
  a2 := Tryz.isAgg2
  z2 := Tryz.sizeOf2
  v2 := Tryz.zeroValue2
  t3 := Tryz.underlying3
  a3 := Tryz.isAgg3
  z3 := Tryz.sizeOf3
  v3 := Tryz.zeroValue3
  t4 := Tryz.underlying4
  a4 := Tryz.isAgg4
  z4 := Tryz.sizeOf4
  v4 := Tryz.zeroValue4
  t5 := Tryz.underlying5
  a5 := Tryz.isAgg5
  z5 := Tryz.sizeOf5
  v5 := Tryz.zeroValue5
  t9 := Tryz.underlying9
  a9 := Tryz.isAgg9
  z9 := Tryz.sizeOf9
  v9 := Tryz.zeroValue9
  t20 := Tryz.underlying20
  a20 := Tryz.isAgg20
  z20 := Tryz.sizeOf20
  v20 := Tryz.zeroValue20
  t37 := Tryz.underlying22
  a37 := Tryz.isAgg22
  z37 := Tryz.sizeOf22
  v37 := Tryz.zeroValue22
  t46 := Tryz.underlying124
  a46 := Tryz.isAgg124
  z46 := Tryz.sizeOf124
  v46 := Tryz.zeroValue124
  t51 := Tryz.underlying151
  a51 := Tryz.isAgg151
  z51 := Tryz.sizeOf151
  v51 := Tryz.zeroValue151
  t53 := Tryz.underlying59
  a53 := Tryz.isAgg59
  z53 := Tryz.sizeOf59
  v53 := Tryz.zeroValue59
  t171 := Tryz.underlying153
  a171 := Tryz.isAgg153
  z171 := Tryz.sizeOf153
  v171 := Tryz.zeroValue153
  t173 := Tryz.underlying155
  a173 := Tryz.isAgg155
  z173 := Tryz.sizeOf155
  v173 := Tryz.zeroValue155
  t212 := Tryz.underlying172
  a212 := Tryz.isAgg172
  z212 := Tryz.sizeOf172
  v212 := Tryz.zeroValue172
  t213 := Tryz.underlying173
  a213 := Tryz.isAgg173
  z213 := Tryz.sizeOf173
  t232 := Tryz.underlying187
  a232 := Tryz.isAgg187
  z232 := Tryz.sizeOf187
  v232 := Tryz.zeroValue187
  t233 := Tryz.underlying188
  a233 := Tryz.isAgg188
  z233 := Tryz.sizeOf188
  v233 := Tryz.zeroValue188
  g17 := by kernel_rfl
  g18 := by kernel_rfl
  g19 := by kernel_rfl }
end Go.Proofs

set_option linter.unusedVariables false
set_option linter.unusedSimpArgs false
set_option maxRecDepth 100000
namespace Go.AV
theorem fspec_lib {P : Program} {f : FuncId} {x y : AV} (h : ∀ (R : RHeap) (w : World) (v : Value), RLe R w → x.den R v → Calls P f #[v] w fun e w' => ∃ u, e = .returned u ∧ y.den R u ∧ Go.RowKit.Below w.heap.size w w') : FSpec P f [x] y := fun R w vs hr hd => by
  match vs, hd.1 with
  | [v], _ =>
    have h1 := hd.2 0 v _ rfl rfl
    refine (h R w v hr h1).mono fun e w' ⟨u, h2, h3, h4⟩ => ⟨u, R, h2, h3, fun b o hb => ?_, fun _ _ => rfl, h4⟩
    have hb2 := hr b o hb
    rw [h4.block b (Array.getElem?_eq_some_iff.1 hb2).1]; exact hb2
theorem below_refl (w : World) : Go.RowKit.Below w.heap.size w w := ⟨rfl, rfl, rfl, Nat.le_refl _, fun _ _ => rfl⟩
end Go.AV
namespace Go.Proofs.YtmlmmgeadombbaaGreatDoor
open Go Go.AV Go.M
attribute [local irreducible] OpW OpA OpS AWP FSpec ESpec GSpec OpE RetOk RetOkG RvDen Le Ev GuardIs SrcIs Int.tmod Int.tdiv IntKind.wrap
theorem itoaS_spec (n : Nat) (h : n < 100) : FSpec Tryz.prog 96 [AV.int n] (AV.str (decD n)) :=
  fspec_lib fun R w v hr hv => by
    rw [show v = Value.int .i64 n from hv]
    refine (Any.strconv_Itoa_small Tryz.itoaS n h w).mono ?_
    rintro e w' ⟨rfl, rfl⟩
    exact ⟨_, rfl, rfl, below_refl w'⟩
end Go.Proofs.YtmlmmgeadombbaaGreatDoor

set_option linter.unusedVariables false
set_option linter.unusedSimpArgs false
namespace Go.AV
open Go.RowKit (Below)
def AV.errB (b : Bool) : AV := ⟨fun _ v => (b = false → v = .nilIface) ∧ (b = true → ∃ t p, v = .iface t p), fun _ h => h⟩
theorem flat_errB (b : Bool) : Flat (AV.errB b) := fun _ _ _ h => h
section
variable {P : Program} {G : Nat → Prop} {n : Nat} {own : List Own} {o : Oper} {E : EnvF}
theorem w_errneq {b : Bool} {t : TypeId} {p : Operand} {ty : TypeId} (ho : o.op = .binOp .neq t p (.const .nilIface) ty) (ht : P.underlying t = some (.interface (P.methodsAt t))) (hp : Ev E p (AV.errB b)) : OpW P G n own o E (AV.bool b) := opW_val fun R a w _ he => by
  have h1 : (b = false → a.eval p = .nilIface) ∧ (b = true → ∃ t p', a.eval p = .iface t p') := ev_use hp (by simp [ho, Op.operands]) he
  have h3 : a.eval (.const .nilIface) = .nilIface := rfl
  cases b with
  | false =>
    have h2 := h1.1 rfl
    exact ⟨.bool false, by simp only [execOp, ho, h2, h3, eqGuard_nil_constR, Sem.run_bind, Sem.run_pure, Result.andThen_ok, run_neq_nil_nil w t ht], rfl⟩
  | true =>
    obtain ⟨u, x, h2⟩ := h1.2 rfl
    exact ⟨.bool true, by simp only [execOp, ho, h2, h3, eqGuard_at_iface, Sem.run_bind, Sem.run_pure, Result.andThen_ok, run_neq_held_nil w t u x ht], rfl⟩
/-- A call whose first argument also tells of a table; nothing else is lent. -/
theorem w_callT {f : FuncId} {args : Array Operand} {tys : Array TypeId} {ps : List Operand} {x : AV} {xs : List AV} {y : AV} {T T' : World → Prop} (i : Nat) (hi : own[i]? = some (.tab T')) (ho : o.op = .call { callee := .value (.func f), args := args, argTypes := tys }) (hc : ∀ (vs : Array Value) (w : World), (callFunc f vs).run P w = .ok (.enter f vs) w)
    (hps : args.toList = ps) (hs : FSpec P f (AV.wt T x :: xs) y) (he : EvL E ps (x :: xs)) (hT : ∀ w, T' w → T w) : OpW P G n own o E y := fun w0 R0 R a w hcore _ hen => by
  have hd := evl_use hen he fun p hp => by simp [ho, Op.operands, Call.operands]; right; rw [← hps] at hp; exact Array.mem_toList_iff.1 hp
  have htab : ∀ w' : World, RLe R w' → T w' := fun w' hw' => hT w' ((hcore.owned _ (List.mem_of_getElem? hi)) w' hw')
  have hd2 : DenV R (ps.map a.eval) (AV.wt T x :: xs) := ⟨hd.1, fun j v z hv hz => by
    cases j with
    | zero =>
      simp at hz; subst hz
      exact ⟨hd.2 0 v x hv rfl, htab⟩
    | succ j => exact hd.2 (j + 1) v z hv hz⟩
  have hrun : (execOp a.eval o).run P w = .ok (.enter f (ps.map a.eval).toArray) w := by
    have hargs : args.map a.eval = (ps.map a.eval).toArray := by rw [← hps]; cases args; simp
    simp only [execOp, ho, resolve, hargs, show a.eval (.func f) = .func (.func f) #[] #[] from rfl]
    simp [Deferred.ofValue, invoke, hc]
  unfold Oper.wp
  rw [hrun, Oper.upon_enter]
  refine (hs R w _ hcore.rle hd2).mono fun e w' ⟨v, R', e1, e2, e3, e4, e5⟩ => ?_
  subst e1
  exact ⟨v, R', rfl, hcore.step e5 e3 e4, rsub_of hcore.rle e4, e2⟩
theorem fspec_wtL {f : FuncId} {x y : AV} {xs : List AV} {T : World → Prop} (h : ∀ (R : RHeap) (w : World) (v : Value) (vs : List Value), RLe R w → x.den R v → DenV R (v :: vs) (x :: xs) → T w → Calls P f (v :: vs).toArray w fun e w' => ∃ u, e = .returned u ∧ y.den R u ∧ Below w.heap.size w w') : FSpec P f (AV.wt T x :: xs) y := fun R w vs hr hd => by
  match vs, hd.1 with
  | v :: vs, _ =>
    have h1 := hd.2 0 v _ rfl rfl
    have hd2 : DenV R (v :: vs) (x :: xs) := ⟨hd.1, fun j u z hu hz => by
      cases j with
      | zero => simp at hz hu; subst hz; subst hu; exact h1.1
      | succ j => exact hd.2 (j + 1) u z hu hz⟩
    refine (h R w v vs hr h1.1 hd2 (h1.2 w hr)).mono fun e w' ⟨u, h2, h3, h4⟩ => ⟨u, R, h2, h3, fun b o hb => ?_, fun _ _ => rfl, h4⟩
    have hb2 := hr b o hb
    rw [h4.block b (Array.getElem?_eq_some_iff.1 hb2).1]; exact hb2
theorem fspec_lib2 {f : FuncId} {x y z : AV} (h : ∀ (R : RHeap) (w : World) (u v : Value), x.den R u → z.den R v → Calls P f #[u, v] w fun e w' => ∃ u, e = .returned u ∧ y.den R u ∧ Below w.heap.size w w') : FSpec P f [x, z] y := fun R w vs hr hd => by
  match vs, hd.1 with
  | [u, v], _ =>
    refine (h R w u v (hd.2 0 u x rfl rfl) (hd.2 1 v z rfl rfl)).mono fun e w' ⟨u, h2, h3, h4⟩ => ⟨u, R, h2, h3, fun b o hb => ?_, fun _ _ => rfl, h4⟩
    have hb2 := hr b o hb
    rw [h4.block b (Array.getElem?_eq_some_iff.1 hb2).1]; exact hb2
theorem below_same (w : World) : Below w.heap.size w w := ⟨rfl, rfl, rfl, Nat.le_refl _, fun _ _ => rfl⟩
theorem below_drew (w : World) (k : Nat) : Below w.heap.size w (w.drewN k) := ⟨rfl, rfl, rfl, Nat.le_refl _, fun _ _ => rfl⟩
theorem below_bytes (w : World) (e : TypeId) (t : ByteArray) : Below w.heap.size w (Lib.bytesWorld w e t) :=
  ⟨rfl, rfl, rfl, by rw [Lib.bytesWorld_size]; exact Nat.le_succ _, fun b hb => Lib.bytesWorld_at_old w e t b hb⟩
theorem denC_strs {R : RHeap} (ps : List ByteArray) : DenC R (ps.map Value.string) (((ps.map (·.data.toList)).map fun s : List UInt8 => [AV.str s]).flatten) := by
  have e : ((ps.map (·.data.toList)).map fun s : List UInt8 => [AV.str s]).flatten = (ps.map Value.string).map AV.is := by
    induction ps with
    | nil => rfl
    | cons b ps ih =>
      simp only [List.map_cons, List.flatten_cons, ih, List.cons_append, List.nil_append]
      rfl
  rw [e]
  refine ⟨by simp, fun i v x hv hx => ?_⟩
  rw [List.getElem?_map, hv] at hx
  injection hx with hx; subst hx
  obtain ⟨b, _, rfl⟩ := List.mem_map.1 (List.mem_of_getElem? hv)
  exact ⟨rfl, rfl⟩
/-- A function of two texts that hands out the pieces in a new row. -/
theorem pieces_own {f : FuncId} {T : World → Prop} {s : List UInt8} {c : UInt8} {t : TypeId} {L : List (List UInt8)} {ps : List ByteArray} (hL : ps.map (·.data.toList) = L) (hlen : ps.length ≤ maxLen)
    (h : ∀ w : World, T w → Calls P f #[.string ⟨s.toArray⟩, .string ⟨#[c]⟩] w fun e w' => e = .returned (.slice (some ⟨w.heap.size, 0, none⟩) ps.length ps.length) ∧ w' = w.alloc (.cells (ps.map Value.string).toArray t)) :
    GSpec P f [AV.wt T (AV.str s), AV.str [c]] [] (fun _ : Value => True) (fun v => [.arr v t 1 (L.map fun x => [AV.str x])]) (fun v => AV.is v) := fun R w vs hr hd _ _ => by
  match vs, hd.1 with
  | [u, v], _ =>
    have h1 := hd.2 0 u _ rfl rfl
    have h2 := hd.2 1 v _ rfl rfl
    rw [show u = Value.string ⟨s.toArray⟩ from h1.1, show v = Value.string ⟨#[c]⟩ from h2]
    refine (h w (h1.2 w hr)).mono fun e w' ⟨e1, e2⟩ => ?_
    subst e1; subst e2; subst hL
    refine ⟨_, _, R, trivial, rfl, rfl, ?_⟩
    exact core_arr_new (core_start hr) (by simp) (Nat.le_refl _) hlen (by simp) (fun x hx => by
      obtain ⟨b, _, rfl⟩ := List.mem_map.1 hx; rfl) (by
      have h9 := denC_strs (R := R) ps
      have e9 : ((ps.map Value.string).toArray.toList.take (ps.length * 1)) = ps.map Value.string := by rw [Nat.mul_one]; exact List.take_of_length_le (by simp)
      rw [e9]; exact h9)
theorem handed_shaped {H : Type} {enc : TypeId × Value → H} {a : Assume} {C : Checked} {os : Os} {f : FuncId} {fn : Func} {s : ChangeSpec} {conds : List PathCond} {apart fresh handsOn again : Bool} {X : World → Array Value → Prop}
    (hX : ∀ (w w' : World) (args : Array Value), w.heap = w'.heap → X w args → X w' args)
    (own : ownKnob C.prog.godebug = none) (started : os.Started) (noInit : C.prog.inits.idxOf? f = none) (hfn : C.prog.funcs[f]? = some fn)
    (witness : ∃ (w : World) (tape : Tape) (i : Input), w.os = os ∧ (w.forCall tape i).Shaped C.prog ∧ i.vars = [] ∧ Input.okWide C.prog (w.forCall tape i) .any w.heap.size f i ∧
      ((s.pre enc C.prog fn conds apart (w.forCall tape i).memory i.args ∧ X (w.forCall tape i).memory i.args) ∧ sizedMet enc C.prog fn (OpenSpec.ofChange s) apart (w.forCall tape i).memory i.args) ∧ a.holds C.prog (lone (Frame.enter C.prog f i.args .normal) [] (w.forCall tape i)))
    (contract : ∀ (W : World) (base : Nat) (args : Array Value) (ds gs : List (DataW H)) (before : List MemPlace),
      (∀ (j : Nat) t v, fn.params[j]? = some t → args[j]? = some v → Value.okWide C.prog W .any base t v) →
      DataW.Whole enc C.prog fn.params.toList s.vars apart W args.toList ds gs before →
      W.ShapedOpen C.prog →
      (DataW.weightsEach C.prog (fn.params.toList ++ s.plain.varTypes C.prog) (ds ++ gs)).all (· ≤ reachBytes) = true → X W args →
      a.holds C.prog (lone (Frame.enter C.prog f args .normal) [] W) →
      Calls C.prog f args W fun e W' => ∃ v, e = .returned v ∧ s.post enc C.prog fn apart fresh handsOn again W args v W') :
    ReturnsInHanded a C os f .any (fun w args => (s.pre enc C.prog fn conds apart w args ∧ X w args) ∧ sizedMet enc C.prog fn (OpenSpec.ofChange s) apart w args) (s.post enc C.prog fn apart fresh handsOn again) := by
  refine returnsInHanded_of_calls own started noInit witness ?_
  intro w tape i _ hsh _ hok hpre hholds
  obtain ⟨_, _, _, fn', hfn', _, _, _, _, hval⟩ := hok
  have e : fn' = fn := Option.some.inj (hfn'.symm.trans hfn)
  subst e
  obtain ⟨⟨⟨ds, gs, before, hw, hc⟩, hx⟩, hz⟩ := hpre
  have hw' := DataW.Whole.of_heap (w' := w.forCall tape i) (by rfl) hw
  refine (contract (w.forCall tape i) w.heap.size i.args ds gs before hval hw' hsh (hz.weights hw) (hX _ _ _ (by rfl) hx) hholds).mono fun e W' ⟨v, he, hp⟩ => ?_
  subst he
  exact ChangeSpec.post_blind hp
theorem cell_heap {W w' : World} {g : Nat} {v : Value} (h : W.cell? ⟨g, 0, none⟩ = some v) (hw : RLe (heapR W) w') : w'.cell? ⟨g, 0, none⟩ = some v := by
  unfold World.cell? at h ⊢
  dsimp only at h ⊢
  cases ho : W.heap[g]? with
  | none => rw [ho] at h; simp at h
  | some o => rw [ho] at h; rw [hw g o ho]; exact h
theorem var_heap {P : Program} {W w' : World} {name : String} {vs : Array Value} (h : W.var? P name = some vs) (hw : RLe (heapR W) w') : w'.var? P name = some vs := by
  unfold World.var? at h ⊢
  cases hg : P.globalNamed name with
  | none => rw [hg] at h; cases h
  | some g =>
    rw [hg] at h
    simp only [Option.bind_some] at h ⊢
    cases ho : W.heap[g]? with
    | none => rw [ho] at h; cases h
    | some o =>
      rw [ho] at h
      rw [hw g o ho]
      exact h
end
end Go.AV

namespace Go.Proofs
open Go.Shelf
set_option linter.unusedVariables false
def Tryz.split_ren : Go.Shelf.Ren := ⟨fun | 146 => 41 | 221 => 101 | 268 => 145 | 138 => 146 | 143 => 147 | 195 => 164 | 197 => 165 | 218 => 166 | 219 => 167 | 260 => 193 | 217 => 194 | 225 => 195 | 224 => 196 | 267 => 197 | 266 => 211 | 314 => 212 | n => n, fun | 9 => 9 | 31 => 34 | 3 => 3 | 4 => 4 | 0 => 0 | 105 => 133 | 21 => 21 | 5 => 5 | 46 => 124 | 119 => 174 | 139 => 177 | 138 => 176 | 146 => 178 | 51 => 151 | n => n, fun | 1 => 0 | 3 => 4 | 4 => 5 | n => n⟩
theorem Tryz.split : Go.Proofs.Lays.n146 Tryz.prog Tryz.split_ren := {
  mixed := by kernel_rfl
  f138 := Tryz.func146.trans (congrArg some (by kernel_rfl))
  f143 := Tryz.func147.trans (congrArg some (by kernel_rfl))
  f146 := Tryz.func41.trans (congrArg some (by kernel_rfl))
  f195 := Tryz.func164.trans (congrArg some (by kernel_rfl))
  f197 := Tryz.func165.trans (congrArg some (by kernel_rfl))
  f217 := Tryz.func194.trans (congrArg some (by kernel_rfl))
  f218 := Tryz.func166.trans (congrArg some (by kernel_rfl))
  f219 := Tryz.func167.trans (congrArg some (by kernel_rfl))
  f221 := Tryz.func101.trans (congrArg some (by kernel_rfl))
  f224 := Tryz.func196.trans (congrArg some (by kernel_rfl))
  f225 := Tryz.func195.trans (congrArg some (by kernel_rfl))
  f260 := Tryz.func193.trans (congrArg some (by kernel_rfl))
  f266 := Tryz.func211.trans (congrArg some (by kernel_rfl))
  f267 := Tryz.func197.trans (congrArg some (by kernel_rfl))
  f268 := Tryz.func145.trans (congrArg some (by kernel_rfl))
  f314 := Tryz.func212.trans (congrArg some (by kernel_rfl))
  t0 := Tryz.underlying0
  a0 := Tryz.isAgg0
  z0 := Tryz.sizeOf0
  v0 := Tryz.zeroValue0
  t3 := Tryz.underlying3
  a3 := Tryz.isAgg3
  z3 := Tryz.sizeOf3
  v3 := Tryz.zeroValue3
  t4 := Tryz.underlying4
  a4 := Tryz.isAgg4
  z4 := Tryz.sizeOf4
  v4 := Tryz.zeroValue4
  t5 := Tryz.underlying5
  a5 := Tryz.isAgg5
  z5 := Tryz.sizeOf5
  v5 := Tryz.zeroValue5
  t9 := Tryz.underlying9
  a9 := Tryz.isAgg9
  z9 := Tryz.sizeOf9
  v9 := Tryz.zeroValue9
  t21 := Tryz.underlying21
  a21 := Tryz.isAgg21
  z21 := Tryz.sizeOf21
  v21 := Tryz.zeroValue21
  t31 := Tryz.underlying34
  a31 := Tryz.isAgg34
  z31 := Tryz.sizeOf34
  v31 := Tryz.zeroValue34
  t46 := Tryz.underlying124
  a46 := Tryz.isAgg124
  z46 := Tryz.sizeOf124
  v46 := Tryz.zeroValue124
  t51 := Tryz.underlying151
  a51 := Tryz.isAgg151
  z51 := Tryz.sizeOf151
  v51 := Tryz.zeroValue151
  t105 := Tryz.underlying133
  a105 := Tryz.isAgg133
  z105 := Tryz.sizeOf133
  v105 := Tryz.zeroValue133
  t119 := Tryz.underlying174
  a119 := Tryz.isAgg174
  z119 := Tryz.sizeOf174
  t138 := Tryz.underlying176
  a138 := Tryz.isAgg176
  z138 := Tryz.sizeOf176
  v138 := Tryz.zeroValue176
  t139 := Tryz.underlying177
  a139 := Tryz.isAgg177
  z139 := Tryz.sizeOf177
  v139 := Tryz.zeroValue177
  t146 := Tryz.underlying178
  a146 := Tryz.isAgg178
  z146 := Tryz.sizeOf178
  v146 := Tryz.zeroValue178
  g1 := by kernel_rfl
  g3 := by kernel_rfl
  g4 := by kernel_rfl }
def Tryz.cut_ren : Go.Shelf.Ren := ⟨fun | 145 => 124 | 220 => 155 | 219 => 167 | 217 => 194 | 225 => 195 | 224 => 196 | 267 => 197 | 266 => 211 | 314 => 212 | n => n, fun | 9 => 9 | 4 => 4 | 59 => 108 | 3 => 3 | 5 => 5 | 46 => 124 | 146 => 178 | 51 => 151 | n => n, fun | 1 => 0 | n => n⟩
theorem Tryz.cut : Go.Proofs.Lays.n145 Tryz.prog Tryz.cut_ren := {
  mixed := by kernel_rfl
  f145 := Tryz.func124.trans (congrArg some (by kernel_rfl))
  f217 := Tryz.func194.trans (congrArg some (by kernel_rfl))
  f219 := Tryz.func167.trans (congrArg some (by kernel_rfl))
  f220 := Tryz.func155.trans (congrArg some (by kernel_rfl))
  f224 := Tryz.func196.trans (congrArg some (by kernel_rfl))
  f225 := Tryz.func195.trans (congrArg some (by kernel_rfl))
  f266 := Tryz.func211.trans (congrArg some (by kernel_rfl))
  f267 := Tryz.func197.trans (congrArg some (by kernel_rfl))
  f314 := Tryz.func212.trans (congrArg some (by kernel_rfl))
  t3 := Tryz.underlying3
  a3 := Tryz.isAgg3
  z3 := Tryz.sizeOf3
  v3 := Tryz.zeroValue3
  t4 := Tryz.underlying4
  a4 := Tryz.isAgg4
  z4 := Tryz.sizeOf4
  v4 := Tryz.zeroValue4
  t5 := Tryz.underlying5
  a5 := Tryz.isAgg5
  z5 := Tryz.sizeOf5
  v5 := Tryz.zeroValue5
  t9 := Tryz.underlying9
  a9 := Tryz.isAgg9
  z9 := Tryz.sizeOf9
  v9 := Tryz.zeroValue9
  t46 := Tryz.underlying124
  a46 := Tryz.isAgg124
  z46 := Tryz.sizeOf124
  v46 := Tryz.zeroValue124
  t51 := Tryz.underlying151
  a51 := Tryz.isAgg151
  z51 := Tryz.sizeOf151
  v51 := Tryz.zeroValue151
  t59 := Tryz.underlying108
  a59 := Tryz.isAgg108
  z59 := Tryz.sizeOf108
  v59 := Tryz.zeroValue108
  t146 := Tryz.underlying178
  a146 := Tryz.isAgg178
  z146 := Tryz.sizeOf178
  v146 := Tryz.zeroValue178
  g1 := by kernel_rfl }
def Tryz.trimSuffix_ren : Go.Shelf.Ren := ⟨fun | 102 => 125 | 209 => 156 | 207 => 175 | n => n, fun | 9 => 9 | 4 => 4 | 3 => 3 | n => n, fun | n => n⟩
theorem Tryz.trimSuffix : Go.Proofs.Lays.n102 Tryz.prog Tryz.trimSuffix_ren := {
  mixed := by kernel_rfl
  f102 := Tryz.func125.trans (congrArg some (by kernel_rfl))
  f207 := Tryz.func175.trans (congrArg some (by kernel_rfl))
  f209 := Tryz.func156.trans (congrArg some (by kernel_rfl))
  t3 := Tryz.underlying3
  a3 := Tryz.isAgg3
  z3 := Tryz.sizeOf3
  v3 := Tryz.zeroValue3
  t4 := Tryz.underlying4
  a4 := Tryz.isAgg4
  z4 := Tryz.sizeOf4
  v4 := Tryz.zeroValue4
  t9 := Tryz.underlying9
  a9 := Tryz.isAgg9
  z9 := Tryz.sizeOf9
  v9 := Tryz.zeroValue9 }
def Tryz.atoi_ren : Go.Shelf.Ren := ⟨fun | 172 => 102 | 244 => 148 | 245 => 149 | 247 => 168 | 279 => 169 | 280 => 170 | 281 => 171 | 282 => 172 | 287 => 198 | 316 => 199 | 171 => 96 | 205 => 200 | 321 => 213 | 322 => 214 | 243 => 139 | 246 => 160 | 283 => 187 | 284 => 188 | 285 => 189 | 286 => 190 | 129 => 186 | 317 => 207 | 318 => 208 | 319 => 209 | 320 => 210 | 337 => 216 | 338 => 217 | n => n, fun | 9 => 9 | 3 => 3 | 75 => 98 | 76 => 99 | 4 => 4 | 5 => 5 | 167 => 136 | 37 => 22 | 0 => 0 | 85 => 137 | 2 => 2 | 168 => 139 | 53 => 59 | 175 => 160 | 46 => 124 | 210 => 163 | 127 => 132 | 145 => 183 | 143 => 181 | 21 => 21 | 171 => 153 | 173 => 155 | 212 => 172 | 51 => 151 | 20 => 20 | 213 => 173 | 232 => 187 | 233 => 188 | 80 => 77 | n => n, fun | 15 => 1 | 16 => 2 | 17 => 3 | 18 => 6 | 19 => 7 | n => n⟩
theorem Tryz.atoi : Go.Proofs.LaysC.n172 Tryz.prog Tryz.atoi_ren := {
  mixed := by kernel_rfl
  f129 := Tryz.func186.trans (congrArg some (by kernel_rfl))
  f171 := Tryz.func96.trans (congrArg some (by kernel_rfl))
  f172 := Tryz.func102.trans (congrArg some (by kernel_rfl))
  f205 := Tryz.func200.trans (congrArg some (by kernel_rfl))
  f243 := Tryz.func139.trans (congrArg some (by kernel_rfl))
  f244 := Tryz.func148.trans (congrArg some (by kernel_rfl))
  f245 := Tryz.func149.trans (congrArg some (by kernel_rfl))
  f246 := Tryz.func160.trans (congrArg some (by kernel_rfl))
  f247 := Tryz.func168.trans (congrArg some (by kernel_rfl))
  f279 := Tryz.func169.trans (congrArg some (by kernel_rfl))
  f280 := Tryz.func170.trans (congrArg some (by kernel_rfl))
  f281 := Tryz.func171.trans (congrArg some (by kernel_rfl))
  f282 := Tryz.func172.trans (congrArg some (by kernel_rfl))
  f283 := Tryz.func187.trans (congrArg some (by kernel_rfl))
  f284 := Tryz.func188.trans (congrArg some (by kernel_rfl))
  f285 := Tryz.func189.trans (congrArg some (by kernel_rfl))
  f286 := Tryz.func190.trans (congrArg some (by kernel_rfl))
  f287 := Tryz.func198.trans (congrArg some (by kernel_rfl))
  f316 := Tryz.func199.trans (congrArg some (by kernel_rfl))
  f317 := Tryz.func207.trans (congrArg some (by kernel_rfl))
  f318 := Tryz.func208.trans (congrArg some (by kernel_rfl))
  f319 := Tryz.func209.trans (congrArg some (by kernel_rfl))
  f320 := Tryz.func210.trans (congrArg some (by kernel_rfl))
  f321 := Tryz.func213.trans (congrArg some (by kernel_rfl))
  f322 := Tryz.func214.trans (congrArg some (by kernel_rfl))
  f337 := Tryz.func216.trans (congrArg some (by kernel_rfl))
  f338 := Tryz.func217.trans (congrArg some (by kernel_rfl))
  t0 := Tryz.underlying0
  a0 := Tryz.isAgg0
  z0 := Tryz.sizeOf0
  v0 := Tryz.zeroValue0
  t2 := Tryz.underlying2
  a2 := Tryz.isAgg2
  z2 := Tryz.sizeOf2
  v2 := Tryz.zeroValue2
  t3 := Tryz.underlying3
  a3 := Tryz.isAgg3
  z3 := Tryz.sizeOf3
  v3 := Tryz.zeroValue3
  t4 := Tryz.underlying4
  a4 := Tryz.isAgg4
  z4 := Tryz.sizeOf4
  v4 := Tryz.zeroValue4
  t5 := Tryz.underlying5
  a5 := Tryz.isAgg5
  z5 := Tryz.sizeOf5
  v5 := Tryz.zeroValue5
  t9 := Tryz.underlying9
  a9 := Tryz.isAgg9
  z9 := Tryz.sizeOf9
  v9 := Tryz.zeroValue9
  t20 := Tryz.underlying20
  a20 := Tryz.isAgg20
  z20 := Tryz.sizeOf20
  v20 := Tryz.zeroValue20
  t21 := Tryz.underlying21
  a21 := Tryz.isAgg21
  z21 := Tryz.sizeOf21
  v21 := Tryz.zeroValue21
  t37 := Tryz.underlying22
  a37 := Tryz.isAgg22
  z37 := Tryz.sizeOf22
  v37 := Tryz.zeroValue22
  t46 := Tryz.underlying124
  a46 := Tryz.isAgg124
  z46 := Tryz.sizeOf124
  v46 := Tryz.zeroValue124
  t51 := Tryz.underlying151
  a51 := Tryz.isAgg151
  z51 := Tryz.sizeOf151
  v51 := Tryz.zeroValue151
  t53 := Tryz.underlying59
  a53 := Tryz.isAgg59
  z53 := Tryz.sizeOf59
  v53 := Tryz.zeroValue59
  t75 := Tryz.underlying98
  a75 := Tryz.isAgg98
  z75 := Tryz.sizeOf98
  v75 := Tryz.zeroValue98
  t76 := Tryz.underlying99
  a76 := Tryz.isAgg99
  z76 := Tryz.sizeOf99
  v76 := Tryz.zeroValue99
  t85 := Tryz.underlying137
  a85 := Tryz.isAgg137
  z85 := Tryz.sizeOf137
  v85 := Tryz.zeroValue137
  t127 := Tryz.underlying132
  a127 := Tryz.isAgg132
  z127 := Tryz.sizeOf132
  v127 := Tryz.zeroValue132
  t143 := Tryz.underlying181
  a143 := Tryz.isAgg181
  z143 := Tryz.sizeOf181
  v143 := Tryz.zeroValue181
  t145 := Tryz.underlying183
  a145 := Tryz.isAgg183
  z145 := Tryz.sizeOf183
  v145 := Tryz.zeroValue183
  t167 := Tryz.underlying136
  a167 := Tryz.isAgg136
  z167 := Tryz.sizeOf136
  v167 := Tryz.zeroValue136
  t168 := Tryz.underlying139
  a168 := Tryz.isAgg139
  z168 := Tryz.sizeOf139
  v168 := Tryz.zeroValue139
  t171 := Tryz.underlying153
  a171 := Tryz.isAgg153
  z171 := Tryz.sizeOf153
  v171 := Tryz.zeroValue153
  t173 := Tryz.underlying155
  a173 := Tryz.isAgg155
  z173 := Tryz.sizeOf155
  v173 := Tryz.zeroValue155
  t175 := Tryz.underlying160
  a175 := Tryz.isAgg160
  z175 := Tryz.sizeOf160
  v175 := Tryz.zeroValue160
  t210 := Tryz.underlying163
  a210 := Tryz.isAgg163
  z210 := Tryz.sizeOf163
  v210 := Tryz.zeroValue163
  t212 := Tryz.underlying172
  a212 := Tryz.isAgg172
  z212 := Tryz.sizeOf172
  v212 := Tryz.zeroValue172
  t213 := Tryz.underlying173
  a213 := Tryz.isAgg173
  z213 := Tryz.sizeOf173
  t232 := Tryz.underlying187
  a232 := Tryz.isAgg187
  z232 := Tryz.sizeOf187
  v232 := Tryz.zeroValue187
  t233 := Tryz.underlying188
  a233 := Tryz.isAgg188
  z233 := Tryz.sizeOf188
  v233 := Tryz.zeroValue188
  g15 := by kernel_rfl
  g16 := by kernel_rfl
  g17 := by kernel_rfl
  g18 := by kernel_rfl
  g19 := by kernel_rfl
  t80 := Tryz.underlying77
  a80 := Tryz.isAgg77
  z80 := Tryz.sizeOf77
  v80 := Tryz.zeroValue77
  i0 := by kernel_rfl
  i2 := by kernel_rfl
  i3 := by kernel_rfl
  i4 := by kernel_rfl
  i5 := by kernel_rfl
  i9 := by kernel_rfl
  i20 := by kernel_rfl
  i21 := by kernel_rfl
  i37 := by kernel_rfl
  i46 := by kernel_rfl
  i51 := by kernel_rfl
  i53 := by kernel_rfl
  i75 := by kernel_rfl
  i76 := by kernel_rfl
  i80 := by kernel_rfl
  i85 := by kernel_rfl
  i127 := by kernel_rfl
  i143 := by kernel_rfl
  i145 := by kernel_rfl
  i167 := by kernel_rfl
  i168 := by kernel_rfl
  i171 := by kernel_rfl
  i173 := by kernel_rfl
  i175 := by kernel_rfl
  i210 := by kernel_rfl
  i212 := by kernel_rfl
  i232 := by kernel_rfl
  i233 := by kernel_rfl
  m15 := by kernel_rfl
  m16 := by kernel_rfl
  m17 := by kernel_rfl
  m18 := by kernel_rfl
  m19 := by kernel_rfl
  c0 := by kernel_rfl
  c2 := by kernel_rfl
  c3 := by kernel_rfl
  c4 := by kernel_rfl
  c5 := by kernel_rfl
  c9 := by kernel_rfl
  c20 := by kernel_rfl
  c21 := by kernel_rfl
  c37 := by kernel_rfl
  c46 := by kernel_rfl
  c51 := by kernel_rfl
  c53 := by kernel_rfl
  c75 := by kernel_rfl
  c76 := by kernel_rfl
  c80 := by kernel_rfl
  c85 := by kernel_rfl
  c127 := by kernel_rfl
  c143 := by kernel_rfl
  c145 := by kernel_rfl
  c167 := by kernel_rfl
  c168 := by kernel_rfl
  c171 := by kernel_rfl
  c173 := by kernel_rfl
  c175 := by kernel_rfl
  c210 := by kernel_rfl
  c212 := by kernel_rfl
  c213 := by kernel_rfl
  c232 := by kernel_rfl
  c233 := by kernel_rfl }
end Go.Proofs

set_option linter.unusedVariables false
set_option linter.unusedSimpArgs false
set_option maxRecDepth 100000
namespace Go.Proofs.YtmlmmgeadombbaaGreatDoor
open Go Go.AV Go.M
attribute [local irreducible] OpW OpA OpS AWP FSpec ESpec GSpec OpE RetOk RetOkG RvDen Le Ev GuardIs SrcIs Int.tmod Int.tdiv IntKind.wrap
def readW (w : World) : Prop := tabW w ∧ (∃ m, w.cell? ⟨0, 0, none⟩ = some (.int .i64 m)) ∧ (∃ tp p, w.var? Tryz.prog "strconv.ErrSyntax" = some #[.iface tp p]) ∧ (∃ tp p, w.var? Tryz.prog "strconv.ErrRange" = some #[.iface tp p])
theorem readW_heap {W w' : World} (h : readW W) (hw : RLe (heapR W) w') : readW w' :=
  let ⟨h1, ⟨m, h2⟩, ⟨t3, p3, h3⟩, ⟨t4, p4, h4⟩⟩ := h
  ⟨tabW_heap h1 hw, ⟨m, cell_heap h2 hw⟩, ⟨t3, p3, var_heap h3 hw⟩, ⟨t4, p4, var_heap h4 hw⟩⟩
theorem split_spec (s : Str) (c : UInt8) (hs : s.length ≤ 1048576) : FSpec Tryz.prog 41 [AV.wt readW (AV.str s), AV.str [c]] (strs (splitC c s)) := by
  have hsz : (ByteArray.mk s.toArray).size = s.length := size_mk s
  have hle := Lib.countB_le ⟨#[c]⟩ (Nat.le_refl 1) _ ⟨s.toArray⟩ (Nat.le_refl _)
  have hlen := Lib.splitB_all ⟨#[c]⟩ (Nat.le_refl 1) 0 _ ⟨s.toArray⟩ rfl
  refine fspec_of_gspec (pieces_own (T := readW) (t := 9) (s := s) (c := c) (ps := Lib.splitB ⟨#[c]⟩ 0 (Lib.countB ⟨s.toArray⟩ ⟨#[c]⟩) ⟨s.toArray⟩) ?_ ?_ fun w hT => ?_) fun v _ => lt_arr (List.mem_singleton.2 rfl) le_refl_e
  · rw [Lib.splitB_data]
    show Lib.splitK [c] 0 (Lib.count s [c]) s = _
    rw [Lib.count_one]
    exact split_rec c s _ rfl
  · rw [hlen]; unfold maxLen; omega
  · obtain ⟨_, ⟨m, hm⟩, _⟩ := hT
    refine (Any.strings_Split Tryz.split (by kernel_rfl) ⟨s.toArray⟩ ⟨#[c]⟩ m w (by rw [hsz]; omega) hm (Nat.le_refl 1)).mono fun e w' ⟨e1, e2⟩ => ?_
    rw [hlen]
    exact ⟨e1, e2⟩
theorem atoi_spec (s : Str) (hs : s.length ≤ 1048576) : FSpec Tryz.prog 102 [AV.wt readW (AV.str s)] (AV.tup [AV.int (atoiV s), AV.errB (atoiBad s)]) :=
  fspec_wt fun R w v hr hx hT => by
    have hsz : (ByteArray.mk s.toArray).size = s.length := size_mk s
    obtain ⟨_, _, ⟨t3, p3, h3⟩, ⟨t4, p4, h4⟩⟩ := hT
    rw [show v = Value.string ⟨s.toArray⟩ from hx]
    cases ha : Lib.atoiAll s with
    | ok n =>
      have e1 : atoiV s = n := by unfold atoiV; rw [ha]
      have e2 : atoiBad s = false := by unfold atoiBad; rw [ha]
      rw [e1, e2]
      refine (Any.strconv_Atoi_ok Tryz.atoi ⟨s.toArray⟩ (by rw [hsz]; omega) n ha w).mono ?_
      rintro e w' ⟨rfl, hw⟩
      exact ⟨_, rfl, ⟨_, rfl, DenV.cons rfl (DenV.cons ⟨fun _ => rfl, fun h => (by cases h)⟩ (DenV.nil _))⟩, by (rcases hw with rfl | ⟨t, rfl⟩); exact below_same _; exact below_bytes _ _ _⟩
    | «syntax» =>
      have e1 : atoiV s = 0 := by unfold atoiV; rw [ha]
      have e2 : atoiBad s = true := by unfold atoiBad; rw [ha]
      rw [e1, e2]
      refine (Any.strconv_Atoi_syntax_var Tryz.atoi ⟨s.toArray⟩ (by rw [hsz]; omega) ha t3 p3 w h3).mono ?_
      rintro e w' ⟨N, rfl, _, _, hb⟩
      exact ⟨_, rfl, ⟨_, rfl, DenV.cons rfl (DenV.cons ⟨fun h => (by cases h), fun _ => ⟨_, _, rfl⟩⟩ (DenV.nil _))⟩, hb⟩
    | range =>
      have e1 : atoiV s = Lib.atoiSat s := by unfold atoiV; rw [ha]
      have e2 : atoiBad s = true := by unfold atoiBad; rw [ha]
      rw [e1, e2]
      refine (Any.strconv_Atoi_range_var Tryz.atoi ⟨s.toArray⟩ (by rw [hsz]; omega) ha t4 p4 w h4).mono ?_
      rintro e w' ⟨N, rfl, _, _, hb⟩
      exact ⟨_, rfl, ⟨_, rfl, DenV.cons rfl (DenV.cons ⟨fun h => (by cases h), fun _ => ⟨_, _, rfl⟩⟩ (DenV.nil _))⟩, hb⟩
end Go.Proofs.YtmlmmgeadombbaaGreatDoor

set_option linter.unusedVariables false
set_option linter.unusedSimpArgs false
set_option maxRecDepth 100000
set_option maxHeartbeats 1000000
namespace Go.M
open Go.AV
theorem atoiV_rng (s : Str) : -9223372036854775808 ≤ atoiV s ∧ atoiV s ≤ 9223372036854775807 := by
  unfold atoiV
  split
  · rename_i h; exact Lib.atoiAll_bounds h
  · omega
  · unfold Lib.atoiSat; split <;> omega
theorem bad_cons (b : UInt8) (r : Str) : l1BadB (b :: r) = (!within ((b :: r).length : Nat) 1 6 || (((b.toNat : Int) == 48) && decide ((1 : Int) < ((b :: r).length : Nat)))) := by
  unfold l1BadB
  have : (b == 48) = ((b.toNat : Int) == 48) := by
    by_cases h : b = 48
    · subst h; rfl
    · have h2 : b.toNat ≠ 48 := fun e => h (UInt8.toNat_inj.1 e)
      have h3 : (b == 48) = false := by simpa using h
      rw [h3]; symm; simp; omega
  simp [this]
theorem dig_val {x : UInt8} (h : 48 ≤ x.toNat ∧ x.toNat ≤ 57) : IntKind.i64.wrap (IntKind.u8.wrap ((x.toNat : Int) - 48)) = ((x.toNat - 48 : Nat) : Int) := by
  have e : IntKind.u8.wrap ((x.toNat : Int) - 48) = ((x.toNat - 48 : Nat) : Int) := by
    simp [IntKind.wrap, IntKind.bits, IntKind.signed]; omega
  rw [e, in64 (by omega)]
theorem rd_next {n i : Nat} {s : Str} {x : UInt8} (hx : s[i]? = some x) (h : 48 ≤ x.toNat ∧ x.toNat ≤ 57) : rdFrom n (s.drop i) = rdFrom (10 * n + (x.toNat - 48)) (s.drop (i + 1)) := by
  have hlt := (List.getElem?_eq_some_iff.1 hx).1
  rw [List.drop_eq_getElem_cons hlt, (List.getElem?_eq_some_iff.1 hx).2]
  conv => lhs; unfold rdFrom
  rw [if_pos (by unfold isDig; simp; omega)]
theorem rd_stop {n i : Nat} {s : Str} {x : UInt8} (hx : s[i]? = some x) (h : x.toNat < 48 ∨ 57 < x.toNat) : rdFrom n (s.drop i) = -1 := by
  have hlt := (List.getElem?_eq_some_iff.1 hx).1
  rw [List.drop_eq_getElem_cons hlt, (List.getElem?_eq_some_iff.1 hx).2]
  conv => lhs; unfold rdFrom
  rw [if_neg (by unfold isDig; simp; omega)]
theorem pow6 {i : Nat} (h : i ≤ 6) : 10 ^ i ≤ 1000000 := Nat.pow_le_pow_right (by decide) h
theorem pow_nx {n i d : Nat} (h : n + 1 ≤ 10 ^ i) (hd : d ≤ 9) : (10 * n + d) + 1 ≤ 10 ^ (i + 1) := by rw [Nat.pow_succ]; omega
end Go.M
namespace Go.Proofs.YtmlmmgeadombbaaGreatDoor
open Go Go.AV Go.M
attribute [local irreducible] OpW OpA OpS AWP FSpec ESpec GSpec OpE RetOk RetOkG RvDen Le Ev GuardIs SrcIs Int.tmod Int.tdiv IntKind.wrap
theorem readInt_spec (s : Str) (lo hi : Int) (hs : s.length ≤ 1048576) : FSpec Tryz.prog 46 [AV.wt readW (AV.str s), AV.int lo, AV.int hi] (AV.tup [AV.int (readI s lo hi).1, AV.bool (readI s lo hi).2]) := by
  refine spec_of_awp Tryz.func46 rfl Tryz.ntmps46 rfl ?_
  refine AWP.le (le_tab (t := 0) rfl) ?_
  refine awp_seq ?_
  refine awp_region ?_
  refine sq_plain rfl rfl rfl (w_assign rfl ev_ci) ?_
  refine sq_plain rfl rfl rfl (w_assign rfl ev_cb) ?_
  refine sq_nil ?_
  refine awp_seq ?_
  refine awp_region ?_
  refine sq_plain rfl rfl rfl (w_move rfl (ev_tmp rfl)) ?_
  refine sq_plain rfl rfl rfl (w_callT 0 rfl rfl Tryz.call102 rfl (atoi_spec s hs) (evl_cons (ev_tmp rfl) evl_nil) (by first | exact fun _ h => h | exact fun _ h => h.1)) ?_
  refine sq_plain rfl rfl rfl (w_move rfl (ev_tmp rfl)) ?_
  refine sq_plain rfl rfl rfl (w_extract rfl (ev_tmp rfl) rfl) ?_
  refine sq_plain rfl rfl rfl (w_extract rfl (ev_tmp rfl) rfl) ?_
  refine sq_plain rfl rfl rfl (w_assign rfl (ev_tmp rfl)) ?_
  refine sq_plain rfl rfl rfl (w_assign rfl (ev_tmp rfl)) ?_
  refine sq_nil ?_
  refine awp_seq ?_
  refine awp_seq ?_
  refine awp_region ?_
  refine sq_plain rfl rfl rfl (w_move rfl (ev_tmp rfl)) ?_
  refine sq_plain rfl rfl rfl (w_errneq rfl (by kernel_rfl) (ev_tmp rfl)) ?_
  refine sq_plain rfl rfl rfl (w_move rfl (ev_tmp rfl)) ?_
  refine sq_grd rfl rfl (guard_f rfl rfl rfl) (fun hc => w_move rfl (ev_tmp rfl)) ?_
  refine sq_grd rfl rfl (guard_f rfl rfl rfl) (fun hc => w_move rfl (ev_tmp rfl)) ?_
  refine sq_grd rfl rfl (guard_f rfl rfl rfl) (fun hc => w_move rfl (ev_tmp rfl)) ?_
  refine sq_grd rfl rfl (guard_f rfl rfl rfl) (fun hc => w_call rfl Tryz.call62 rfl (within_spec _ _ _) (evl_cons (ev_whn rfl hc) (evl_cons (ev_whn rfl hc) (evl_cons (ev_whn rfl hc) evl_nil)))) ?_
  refine sq_grd rfl rfl (guard_f rfl rfl rfl) (fun hc => w_not rfl (ev_whn rfl hc)) ?_
  refine sq_plain rfl rfl rfl (w_or rfl (ev_tmp rfl) (evif_w rfl)) ?_
  refine sq_plain rfl rfl rfl (w_move rfl (ev_tmp rfl)) ?_
  refine sq_grd rfl rfl (guard_f rfl rfl rfl) (fun hc => w_move rfl (ev_tmp rfl)) ?_
  refine sq_grd rfl rfl (guard_f rfl rfl rfl) (fun hc => w_callT 0 rfl rfl Tryz.call96 rfl (itoa_spec (atoiV s) (atoiV_rng s)) (evl_cons (ev_whn rfl hc) evl_nil) (by first | exact fun _ h => h | exact fun _ h => h.1)) ?_
  refine sq_grd rfl rfl (guard_f rfl rfl rfl) (fun hc => w_move rfl (ev_tmp rfl)) ?_
  refine sq_grd rfl rfl (guard_f rfl rfl rfl) (fun hc => w_sneq rfl (ev_whn rfl hc) (ev_whn rfl hc)) ?_
  refine sq_plain rfl rfl rfl (w_or rfl (ev_tmp rfl) (evif_w rfl)) ?_
  refine sq_nil ?_
  refine awp_cond (ev_tmp rfl) ?_ ?_
  · intro h29
    have he : readI s lo hi = (0, false) := if_pos h29
    rw [he]
    refine awp_seq ?_
    refine awp_region ?_
    refine sq_plain rfl rfl rfl (w_assign rfl ev_ci) ?_
    refine sq_plain rfl rfl rfl (w_assign rfl ev_cb) ?_
    refine sq_nil ?_
    refine awp_ret ?_
    exact retN rfl (by decide) (rv_cons (rv_tmp' rfl (by rfl)) (rv_cons (rv_tmp' rfl (by rfl)) rv_nil))
  · intro h29
    have he : readI s lo hi = (atoiV s, true) := if_neg (by rw [h29]; decide)
    rw [he]
    refine awp_skip ?_
    refine awp_seq ?_
    refine awp_region ?_
    refine sq_plain rfl rfl rfl (w_move rfl (ev_tmp rfl)) ?_
    refine sq_plain rfl rfl rfl (w_assign rfl (ev_tmp rfl)) ?_
    refine sq_plain rfl rfl rfl (w_assign rfl ev_cb) ?_
    refine sq_nil ?_
    refine awp_ret ?_
    exact retN rfl (by decide) (rv_cons (rv_tmp' rfl (by rfl)) (rv_cons (rv_tmp' rfl (by rfl)) rv_nil))
theorem l1Read_nil : FSpec Tryz.prog 86 [AV.str []] (AV.int (l1R [])) := by
  refine spec_of_awp Tryz.func86 rfl Tryz.ntmps86 rfl ?_
  refine awp_seq ?_
  refine awp_region ?_
  refine sq_plain rfl rfl rfl (w_assign rfl ev_ci) ?_
  refine sq_nil ?_
  refine awp_seq ?_
  refine awp_seq ?_
  refine awp_region ?_
  refine sq_plain rfl rfl rfl (w_move rfl (ev_tmp rfl)) ?_
  refine sq_plain rfl rfl rfl (w_slen rfl Tryz.underlying9 (ev_tmp rfl)) ?_
  refine sq_plain rfl rfl rfl (w_call rfl Tryz.call109 rfl (l1In_spec _ _ _) (evl_cons (ev_tmp rfl) (evl_cons ev_ci (evl_cons ev_ci evl_nil)))) ?_
  refine sq_plain rfl rfl rfl (w_not rfl (ev_tmp rfl)) ?_
  refine sq_plain rfl rfl rfl (w_move rfl (ev_tmp rfl)) ?_
  refine sq_grd rfl rfl (guard_f rfl rfl rfl) (fun hc => w_move rfl (ev_tmp rfl)) ?_
  refine sq_grd rfl rfl (guard_f rfl rfl rfl) (fun hc => (show OpW _ _ _ _ _ _ (AV.byte 0) from (by exfalso; revert hc; decide))) ?_
  refine sq_grd rfl rfl (guard_f rfl rfl rfl) (fun hc => w_eql rfl (ev_whn rfl hc) ev_ci) ?_
  refine sq_grd rfl rfl (guard_f rfl rfl rfl) (fun hc => w_move rfl (ev_whn rfl hc)) ?_
  refine sq_grd rfl rfl (guard_wt rfl rfl rfl) (fun hc => w_move rfl (ev_tmp rfl)) ?_
  refine sq_grd rfl rfl (guard_wt rfl rfl rfl) (fun hc => w_slen rfl Tryz.underlying9 (ev_whn rfl hc)) ?_
  refine sq_grd rfl rfl (guard_wt rfl rfl rfl) (fun hc => w_gtr rfl (ev_whn rfl hc) ev_ci) ?_
  refine sq_grd rfl rfl (guard_f rfl rfl rfl) (fun hc => w_and rfl (ev_whn rfl hc) (evif_w2 rfl hc)) ?_
  refine sq_plain rfl rfl rfl (w_or rfl (ev_tmp rfl) (evif_w rfl)) ?_
  refine sq_nil ?_
  refine awp_cond (ev_tmp rfl) ?_ ?_
  · intro h18
    refine awp_seq ?_
    refine awp_region ?_
    refine sq_plain rfl rfl rfl (w_assign rfl ev_ci) ?_
    refine sq_nil ?_
    refine awp_ret ?_
    exact retR rfl (rv_tmp' rfl (by rfl))
  · intro h18
    exfalso; revert h18; decide
theorem l1Read_cons (b : UInt8) (r : Str) (hs : (b :: r).length ≤ 1048576) : FSpec Tryz.prog 86 [AV.str (b :: r)] (AV.int (l1R (b :: r))) := by
  have hb0 : (b :: r)[0]? = some b := rfl
  obtain ⟨s, hse⟩ : ∃ s, b :: r = s := ⟨_, rfl⟩
  have hbad := bad_cons b r
  rw [hse] at hs hb0 hbad ⊢
  refine spec_of_awp Tryz.func86 rfl Tryz.ntmps86 rfl ?_
  refine awp_seq ?_
  refine awp_region ?_
  refine sq_plain rfl rfl rfl (w_assign rfl ev_ci) ?_
  refine sq_nil ?_
  refine awp_seq ?_
  refine awp_seq ?_
  refine awp_region ?_
  refine sq_plain rfl rfl rfl (w_move rfl (ev_tmp rfl)) ?_
  refine sq_plain rfl rfl rfl (w_slen rfl Tryz.underlying9 (ev_tmp rfl)) ?_
  refine sq_plain rfl rfl rfl (w_call rfl Tryz.call109 rfl (l1In_spec _ _ _) (evl_cons (ev_tmp rfl) (evl_cons ev_ci (evl_cons ev_ci evl_nil)))) ?_
  refine sq_plain rfl rfl rfl (w_not rfl (ev_tmp rfl)) ?_
  refine sq_plain rfl rfl rfl (w_move rfl (ev_tmp rfl)) ?_
  refine sq_grd rfl rfl (guard_f rfl rfl rfl) (fun hc => w_move rfl (ev_tmp rfl)) ?_
  refine sq_grd rfl rfl (guard_f rfl rfl rfl) (fun hc => w_sidx rfl Tryz.underlying9 (ev_whn rfl hc) ev_ci (by have := (List.getElem?_eq_some_iff.1 hb0).1; omega) hb0) ?_
  refine sq_grd rfl rfl (guard_f rfl rfl rfl) (fun hc => w_eql rfl (ev_whn rfl hc) ev_ci) ?_
  refine sq_grd rfl rfl (guard_f rfl rfl rfl) (fun hc => w_move rfl (ev_whn rfl hc)) ?_
  refine sq_grd rfl rfl (guard_wt rfl rfl rfl) (fun hc => w_move rfl (ev_tmp rfl)) ?_
  refine sq_grd rfl rfl (guard_wt rfl rfl rfl) (fun hc => w_slen rfl Tryz.underlying9 (ev_whn rfl hc)) ?_
  refine sq_grd rfl rfl (guard_wt rfl rfl rfl) (fun hc => w_gtr rfl (ev_whn rfl hc) ev_ci) ?_
  refine sq_grd rfl rfl (guard_f rfl rfl rfl) (fun hc => w_and rfl (ev_whn rfl hc) (evif_w2 rfl hc)) ?_
  refine sq_plain rfl rfl rfl (w_or rfl (ev_tmp rfl) (evif_w rfl)) ?_
  refine sq_nil ?_
  refine awp_cond (ev_tmp rfl) ?_ ?_
  · intro h18
    have he : l1R s = -1 := if_pos (by rw [hbad]; exact h18)
    rw [he]
    refine awp_seq ?_
    refine awp_region ?_
    refine sq_plain rfl rfl rfl (w_assign rfl ev_ci) ?_
    refine sq_nil ?_
    refine awp_ret ?_
    exact retR rfl (rv_tmp' rfl (by rfl))
  · intro h18
    have he : l1R s = rdFrom 0 s := if_neg (by rw [hbad, h18]; decide)
    rw [he]
    have hl6 : s.length ≤ 6 := (by simp only [Bool.or_eq_false_iff, Bool.not_eq_false'] at h18; have h9 := h18.1; unfold within at h9; simp at h9; omega)
    refine awp_skip ?_
    refine awp_seq ?_
    refine awp_region ?_
    refine sq_plain rfl rfl rfl (w_assign rfl ev_ci) ?_
    refine sq_nil ?_
    refine awp_seq ?_
    refine awp_seq ?_
    refine awp_region ?_
    refine sq_plain rfl rfl rfl (w_assign rfl ev_ci) ?_
    refine sq_nil ?_
    refine awp_block ?_
    refine awp_loop_i2 [(0, _)] _ (fun (i : Nat) (n : Nat) => i ≤ s.length ∧ rdFrom 0 s = rdFrom n (s.drop i) ∧ n + 1 ≤ 10 ^ i) (fun (i : Nat) (n : Nat) => []) (fun (i : Nat) (n : Nat) => [(3, AV.int n), (4, AV.int i)]) (fun (i : Nat) (n : Nat) => s.length - i) (0) (0) ?_ (le_env ⟨rfl, rfl, rfl, trivial⟩) ?_
    · exact ⟨Nat.zero_le _, rfl, by decide⟩
    intro i n hinv
    have hp6 := pow6 (i := i) (by omega)
    have hn6 := hinv.2.2
    refine awp_seq ?_
    refine awp_seq ?_
    refine awp_region ?_
    refine sq_plain rfl rfl rfl (w_move rfl (ev_tmp rfl)) ?_
    refine sq_plain rfl rfl rfl (w_move rfl (ev_tmp rfl)) ?_
    refine sq_plain rfl rfl rfl (w_slen rfl Tryz.underlying9 (ev_tmp rfl)) ?_
    refine sq_plain rfl rfl rfl (w_lss rfl (ev_tmp rfl) (ev_tmp rfl)) ?_
    refine sq_nil ?_
    refine awp_cond (ev_tmp rfl) ?_ ?_
    · intro h22
      have k22 := of_decide_eq_true h22; try simp only [List.length_map] at k22
      obtain ⟨x, hx⟩ := get_some (show i < s.length by omega)
      refine awp_skip ?_
      refine awp_seq ?_
      refine awp_block ?_
      refine awp_seq ?_
      refine awp_seq ?_
      refine awp_region ?_
      refine sq_plain rfl rfl rfl (w_move rfl (ev_tmp rfl)) ?_
      refine sq_plain rfl rfl rfl (w_move rfl (ev_tmp rfl)) ?_
      refine sq_plain rfl rfl rfl (w_sidx rfl Tryz.underlying9 (ev_tmp rfl) (ev_tmp rfl) (by omega) hx) ?_
      refine sq_plain rfl rfl rfl (w_lss rfl (ev_tmp rfl) ev_ci) ?_
      refine sq_plain rfl rfl rfl (w_move rfl (ev_tmp rfl)) ?_
      refine sq_grd rfl rfl (guard_f rfl rfl rfl) (fun hc => w_move rfl (ev_tmp rfl)) ?_
      refine sq_grd rfl rfl (guard_f rfl rfl rfl) (fun hc => w_move rfl (ev_tmp rfl)) ?_
      refine sq_grd rfl rfl (guard_f rfl rfl rfl) (fun hc => w_sidx rfl Tryz.underlying9 (ev_whn rfl hc) (ev_whn rfl hc) (by omega) hx) ?_
      refine sq_grd rfl rfl (guard_f rfl rfl rfl) (fun hc => w_gtr rfl (ev_whn rfl hc) ev_ci) ?_
      refine sq_plain rfl rfl rfl (w_or rfl (ev_tmp rfl) (evif_w rfl)) ?_
      refine sq_nil ?_
      refine awp_cond (ev_tmp rfl) ?_ ?_
      · intro h34
        have hst := rd_stop (n := n) hx (by simp only [Bool.or_eq_true, decide_eq_true_eq] at h34; omega)
        rw [hinv.2.1, hst]
        refine awp_seq ?_
        refine awp_region ?_
        refine sq_plain rfl rfl rfl (w_assign rfl ev_ci) ?_
        refine sq_nil ?_
        refine awp_ret ?_
        exact retR rfl (rv_tmp' rfl (by rfl))
      · intro h34
        have hdig : 48 ≤ x.toNat ∧ x.toNat ≤ 57 := (by simp only [Bool.or_eq_false_iff, decide_eq_false_iff_not] at h34; omega)
        refine awp_skip ?_
        refine awp_region ?_
        refine sq_plain rfl rfl rfl (w_move rfl (ev_tmp rfl)) ?_
        refine sq_plain rfl rfl rfl (w_muli rfl ev_ci (ev_tmp rfl) (by first | omega | ((try simp only [List.length_map, List.length_take, List.length_cons, List.length_nil, chunks_len, szR] at *); omega) | (have hc2 := hc; simp only [Bool.and_eq_true, Bool.or_eq_true, Bool.or_eq_false_iff, Bool.and_eq_false_iff, Bool.not_eq_true', Bool.not_eq_false', decide_eq_true_eq, decide_eq_false_iff_not, beq_iff_eq, bne_iff_ne, List.length_map, List.length_take] at hc2; omega))) ?_
        refine sq_plain rfl rfl rfl (w_move rfl (ev_tmp rfl)) ?_
        refine sq_plain rfl rfl rfl (w_move rfl (ev_tmp rfl)) ?_
        refine sq_plain rfl rfl rfl (w_sidx rfl Tryz.underlying9 (ev_tmp rfl) (ev_tmp rfl) (by omega) hx) ?_
        refine sq_plain rfl rfl rfl (w_sub rfl (ev_tmp rfl) ev_ci) ?_
        refine sq_plain rfl rfl rfl (w_conv rfl (by kernel_rfl) Tryz.underlying3 (ev_tmp rfl)) ?_
        rw [dig_val hdig]
        refine sq_plain rfl rfl rfl (w_addi rfl (ev_tmp rfl) (ev_tmp rfl) (by first | omega | ((try simp only [List.length_map, List.length_take, List.length_cons, List.length_nil, chunks_len, szR] at *); omega) | (have hc2 := hc; simp only [Bool.and_eq_true, Bool.or_eq_true, Bool.or_eq_false_iff, Bool.and_eq_false_iff, Bool.not_eq_true', Bool.not_eq_false', decide_eq_true_eq, decide_eq_false_iff_not, beq_iff_eq, bne_iff_ne, List.length_map, List.length_take] at hc2; omega))) ?_
        refine sq_plain rfl rfl rfl (w_assign rfl (ev_tmp rfl)) ?_
        refine sq_nil ?_
        refine awp_region ?_
        refine sq_plain rfl rfl rfl (w_move rfl (ev_tmp rfl)) ?_
        refine sq_plain rfl rfl rfl (w_addi rfl (ev_tmp rfl) ev_ci (by first | omega | ((try simp only [List.length_map, List.length_take, List.length_cons, List.length_nil, chunks_len, szR] at *); omega) | (have hc2 := hc; simp only [Bool.and_eq_true, Bool.or_eq_true, Bool.or_eq_false_iff, Bool.and_eq_false_iff, Bool.not_eq_true', Bool.not_eq_false', decide_eq_true_eq, decide_eq_false_iff_not, beq_iff_eq, bne_iff_ne, List.length_map, List.length_take] at hc2; omega))) ?_
        refine sq_plain rfl rfl rfl (w_assign rfl (ev_tmp rfl)) ?_
        refine sq_nil ?_
        refine round_end2 i n (i + 1) (10 * n + (x.toNat - 48)) ?_ ?_ (le_env ⟨congrArg (fun z => some (AV.int z)) (by omega), rfl, rfl, trivial⟩)
        · exact ⟨by omega, hinv.2.1.trans (rd_next hx hdig), pow_nx hinv.2.2 (by omega)⟩
        · omega
    · intro h22
      have k22 := of_decide_eq_false h22; try simp only [List.length_map] at k22
      have hend : rdFrom 0 s = (n : Int) := (by rw [hinv.2.1, List.drop_of_length_le (by omega)]; rfl)
      rw [hend]
      refine awp_exit ?_
      refine awp_seq ?_
      refine awp_region ?_
      refine sq_plain rfl rfl rfl (w_move rfl (ev_tmp rfl)) ?_
      refine sq_plain rfl rfl rfl (w_assign rfl (ev_tmp rfl)) ?_
      refine sq_nil ?_
      refine awp_ret ?_
      exact retR rfl (rv_tmp' rfl (by rfl))
theorem l1Read_spec (s : Str) (hs : s.length ≤ 1048576) : FSpec Tryz.prog 86 [AV.str s] (AV.int (l1R s)) := by
  cases s with
  | nil => exact l1Read_nil
  | cons b r => exact l1Read_cons b r hs
theorem l1Split_spec (s : Str) (c : UInt8) (hs : s.length ≤ 1048576) : FSpec Tryz.prog 50 [AV.str s, AV.ik .u8 (c.toNat : Int)] (strs (splitC c s)) := by
  refine spec_of_awp Tryz.func50 rfl Tryz.ntmps50 rfl ?_
  refine awp_seq ?_
  refine awp_region ?_
  refine sq_plain rfl rfl rfl (w_assign rfl (ev_cnil (sz := 1))) ?_
  refine sq_nil ?_
  refine awp_seq ?_
  refine awp_region ?_
  refine sq_nilarr 9 1 rfl rfl rfl rfl ev_cnils ?_
  intro v5
  refine sq_nil ?_
  refine awp_seq ?_
  refine awp_region ?_
  refine sq_plain rfl rfl rfl (w_assign rfl ev_ci) ?_
  refine sq_nil ?_
  refine awp_seq ?_
  refine awp_seq ?_
  refine awp_region ?_
  refine sq_plain rfl rfl rfl (w_assign rfl ev_ci) ?_
  refine sq_nil ?_
  refine awp_block ?_
  refine awp_loop_i4 [(0, _), (1, _), (4, _)] _ (fun (i : Nat) (fr : Nat) (acc : List Str) (v : Value) => SpOk c s acc fr i) (fun (i : Nat) (fr : Nat) (acc : List Str) (v : Value) => [.arr v 9 1 (acc.map fun t => [AV.str t])]) (fun (i : Nat) (fr : Nat) (acc : List Str) (v : Value) => [(5, AV.is v), (6, AV.int fr), (7, AV.int i)]) (fun (i : Nat) (fr : Nat) (acc : List Str) (v : Value) => s.length - i) (0) (0) ([]) (v5) ?_ (le_eq (by rfl) ⟨rfl, rfl, rfl, rfl, rfl, rfl, trivial⟩) ?_
  · exact spOk_start c s
  intro i fr acc v hinv
  have hk1 := hinv.2.1
  have hk2 := hinv.2.2.1
  have hk3 := hinv.2.2.2
  refine awp_seq ?_
  refine awp_seq ?_
  refine awp_region ?_
  refine sq_plain rfl rfl rfl (w_move rfl (ev_tmp rfl)) ?_
  refine sq_plain rfl rfl rfl (w_move rfl (ev_tmp rfl)) ?_
  refine sq_plain rfl rfl rfl (w_slen rfl Tryz.underlying9 (ev_tmp rfl)) ?_
  refine sq_plain rfl rfl rfl (w_lss rfl (ev_tmp rfl) (ev_tmp rfl)) ?_
  refine sq_nil ?_
  refine awp_cond (ev_tmp rfl) ?_ ?_
  · intro h11
    have k11 := of_decide_eq_true h11; try simp only [List.length_map] at k11
    obtain ⟨x, hx⟩ := get_some (show i < s.length by omega)
    refine awp_skip ?_
    refine awp_seq ?_
    refine awp_block ?_
    refine awp_seq ?_
    refine awp_region ?_
    refine sq_plain rfl rfl rfl (w_move rfl (ev_tmp rfl)) ?_
    refine sq_plain rfl rfl rfl (w_move rfl (ev_tmp rfl)) ?_
    refine sq_plain rfl rfl rfl (w_sidx rfl Tryz.underlying9 (ev_tmp rfl) (ev_tmp rfl) (by omega) hx) ?_
    refine sq_plain rfl rfl rfl (w_move rfl (ev_tmp rfl)) ?_
    refine sq_plain rfl rfl rfl (w_eql rfl (ev_tmp rfl) (ev_tmp rfl)) ?_
    refine sq_nil ?_
    refine awp_cond (ev_tmp rfl) ?_ ?_
    · intro h18
      have k18 := eq_of_beqt h18; try simp only [List.length_map] at k18
      have hxc : s[i]? = some c := (by rw [hx]; congr 1; exact UInt8.toNat_inj.1 (by omega))
      refine awp_seq ?_
      refine awp_region ?_
      refine sq_plain rfl rfl rfl (w_move rfl (ev_tmp rfl)) ?_
      refine sq_plain rfl rfl rfl (w_move rfl (ev_tmp rfl)) ?_
      refine sq_plain rfl rfl rfl (w_move rfl (ev_tmp rfl)) ?_
      refine sq_plain rfl rfl rfl (w_move rfl (ev_tmp rfl)) ?_
      refine sq_plain rfl rfl rfl (w_ssl_lohi rfl Tryz.underlying9 (ev_tmp rfl) (ev_tmp rfl) (ev_tmp rfl) (by first | omega | ((try simp only [List.length_map, List.length_take, List.length_cons, List.length_nil, chunks_len, szR] at *); omega) | (have hc2 := hc; simp only [Bool.and_eq_true, Bool.or_eq_true, Bool.or_eq_false_iff, Bool.and_eq_false_iff, Bool.not_eq_true', Bool.not_eq_false', decide_eq_true_eq, decide_eq_false_iff_not, beq_iff_eq, bne_iff_ne, List.length_map, List.length_take] at hc2; omega)) (by first | omega | ((try simp only [List.length_map, List.length_take, List.length_cons, List.length_nil, chunks_len, szR] at *); omega) | (have hc2 := hc; simp only [Bool.and_eq_true, Bool.or_eq_true, Bool.or_eq_false_iff, Bool.and_eq_false_iff, Bool.not_eq_true', Bool.not_eq_false', decide_eq_true_eq, decide_eq_false_iff_not, beq_iff_eq, bne_iff_ne, List.length_map, List.length_take] at hc2; omega)) (by first | omega | ((try simp only [List.length_map, List.length_take, List.length_cons, List.length_nil, chunks_len, szR] at *); omega) | (have hc2 := hc; simp only [Bool.and_eq_true, Bool.or_eq_true, Bool.or_eq_false_iff, Bool.and_eq_false_iff, Bool.not_eq_true', Bool.not_eq_false', decide_eq_true_eq, decide_eq_false_iff_not, beq_iff_eq, bne_iff_ne, List.length_map, List.length_take] at hc2; omega))) ?_
      refine sq_plain rfl rfl rfl (w_bslice rfl Tryz.underlying34 Tryz.sizeOf9 Tryz.zeroValue9 rfl rfl rfl rfl (bp_cons (ev_tmp rfl) (as_str _) bp_nil) rfl rfl) ?_
      refine sq_append (by' := 16) 0 rfl rfl rfl rfl Tryz.underlying34 Tryz.type9 rfl rfl rfl rfl rfl rfl (ev_tmp rfl) (ev_tmp rfl) rfl (by first | omega | ((try simp only [List.length_map, List.length_take, List.length_cons, List.length_nil, chunks_len, szR] at *); omega) | (have hc2 := hc; simp only [Bool.and_eq_true, Bool.or_eq_true, Bool.or_eq_false_iff, Bool.and_eq_false_iff, Bool.not_eq_true', Bool.not_eq_false', decide_eq_true_eq, decide_eq_false_iff_not, beq_iff_eq, bne_iff_ne, List.length_map, List.length_take] at hc2; omega)) ?_
      intro v25_1
      refine sq_plain rfl rfl rfl (w_assign rfl (ev_tmp rfl)) ?_
      refine sq_nil ?_
      refine awp_region ?_
      refine sq_plain rfl rfl rfl (w_move rfl (ev_tmp rfl)) ?_
      refine sq_plain rfl rfl rfl (w_addi rfl (ev_tmp rfl) ev_ci (by first | omega | ((try simp only [List.length_map, List.length_take, List.length_cons, List.length_nil, chunks_len, szR] at *); omega) | (have hc2 := hc; simp only [Bool.and_eq_true, Bool.or_eq_true, Bool.or_eq_false_iff, Bool.and_eq_false_iff, Bool.not_eq_true', Bool.not_eq_false', decide_eq_true_eq, decide_eq_false_iff_not, beq_iff_eq, bne_iff_ne, List.length_map, List.length_take] at hc2; omega))) ?_
      refine sq_plain rfl rfl rfl (w_assign rfl (ev_tmp rfl)) ?_
      refine sq_nil ?_
      refine awp_region ?_
      refine sq_plain rfl rfl rfl (w_move rfl (ev_tmp rfl)) ?_
      refine sq_plain rfl rfl rfl (w_addi rfl (ev_tmp rfl) ev_ci (by first | omega | ((try simp only [List.length_map, List.length_take, List.length_cons, List.length_nil, chunks_len, szR] at *); omega) | (have hc2 := hc; simp only [Bool.and_eq_true, Bool.or_eq_true, Bool.or_eq_false_iff, Bool.and_eq_false_iff, Bool.not_eq_true', Bool.not_eq_false', decide_eq_true_eq, decide_eq_false_iff_not, beq_iff_eq, bne_iff_ne, List.length_map, List.length_take] at hc2; omega))) ?_
      refine sq_plain rfl rfl rfl (w_assign rfl (ev_tmp rfl)) ?_
      refine sq_nil ?_
      refine round_end4 i fr acc v (i + 1) (i + 1) (acc ++ [(s.take i).drop fr]) (v25_1) ?_ ?_ (le_eq (by first | rfl | (rw [List.map_append]; rfl)) ⟨rfl, rfl, rfl, rfl, rfl, rfl, trivial⟩)
      · exact spOk_hit hinv hxc
      · omega
    · intro h18
      have k18 := ne_of_beqf h18; try simp only [List.length_map] at k18
      have hxc : x ≠ c := (by intro e; subst e; simp at h18)
      refine awp_skip ?_
      refine awp_region ?_
      refine sq_plain rfl rfl rfl (w_move rfl (ev_tmp rfl)) ?_
      refine sq_plain rfl rfl rfl (w_addi rfl (ev_tmp rfl) ev_ci (by first | omega | ((try simp only [List.length_map, List.length_take, List.length_cons, List.length_nil, chunks_len, szR] at *); omega) | (have hc2 := hc; simp only [Bool.and_eq_true, Bool.or_eq_true, Bool.or_eq_false_iff, Bool.and_eq_false_iff, Bool.not_eq_true', Bool.not_eq_false', decide_eq_true_eq, decide_eq_false_iff_not, beq_iff_eq, bne_iff_ne, List.length_map, List.length_take] at hc2; omega))) ?_
      refine sq_plain rfl rfl rfl (w_assign rfl (ev_tmp rfl)) ?_
      refine sq_nil ?_
      refine round_end4 i fr acc v (i + 1) (fr) (acc) (v) ?_ ?_ (le_eq (by first | rfl | (rw [List.map_append]; rfl)) ⟨rfl, rfl, rfl, rfl, rfl, rfl, trivial⟩)
      · exact spOk_miss hinv hx hxc
      · omega
  · intro h11
    have k11 := of_decide_eq_false h11; try simp only [List.length_map] at k11
    have hend := spOk_end hinv (by omega)
    rw [hend]
    refine awp_exit ?_
    refine awp_seq ?_
    refine awp_region ?_
    refine sq_plain rfl rfl rfl (w_move rfl (ev_tmp rfl)) ?_
    refine sq_plain rfl rfl rfl (w_move rfl (ev_tmp rfl)) ?_
    refine sq_plain rfl rfl rfl (w_move rfl (ev_tmp rfl)) ?_
    refine sq_plain rfl rfl rfl (w_ssl_lo rfl Tryz.underlying9 (ev_tmp rfl) (ev_tmp rfl) (by first | omega | ((try simp only [List.length_map, List.length_take, List.length_cons, List.length_nil, chunks_len, szR] at *); omega) | (have hc2 := hc; simp only [Bool.and_eq_true, Bool.or_eq_true, Bool.or_eq_false_iff, Bool.and_eq_false_iff, Bool.not_eq_true', Bool.not_eq_false', decide_eq_true_eq, decide_eq_false_iff_not, beq_iff_eq, bne_iff_ne, List.length_map, List.length_take] at hc2; omega)) (by first | omega | ((try simp only [List.length_map, List.length_take, List.length_cons, List.length_nil, chunks_len, szR] at *); omega) | (have hc2 := hc; simp only [Bool.and_eq_true, Bool.or_eq_true, Bool.or_eq_false_iff, Bool.and_eq_false_iff, Bool.not_eq_true', Bool.not_eq_false', decide_eq_true_eq, decide_eq_false_iff_not, beq_iff_eq, bne_iff_ne, List.length_map, List.length_take] at hc2; omega))) ?_
    refine sq_plain rfl rfl rfl (w_bslice rfl Tryz.underlying34 Tryz.sizeOf9 Tryz.zeroValue9 rfl rfl rfl rfl (bp_cons (ev_tmp rfl) (as_str _) bp_nil) rfl rfl) ?_
    refine sq_append (by' := 16) 0 rfl rfl rfl rfl Tryz.underlying34 Tryz.type9 rfl rfl rfl rfl rfl rfl (ev_tmp rfl) (ev_tmp rfl) rfl (by first | omega | ((try simp only [List.length_map, List.length_take, List.length_cons, List.length_nil, chunks_len, szR] at *); omega) | (have hc2 := hc; simp only [Bool.and_eq_true, Bool.or_eq_true, Bool.or_eq_false_iff, Bool.and_eq_false_iff, Bool.not_eq_true', Bool.not_eq_false', decide_eq_true_eq, decide_eq_false_iff_not, beq_iff_eq, bne_iff_ne, List.length_map, List.length_take] at hc2; omega)) ?_
    intro v33_2
    refine sq_plain rfl rfl rfl (w_assign rfl (ev_tmp rfl)) ?_
    refine sq_nil ?_
    refine awp_ret ?_
    refine ret_seal 0 4 rfl rfl ?_
    exact retR rfl (rv_tmp' rfl (by first | rfl | (unfold strs; rw [List.map_append]; rfl)))
end Go.Proofs.YtmlmmgeadombbaaGreatDoor

set_option linter.unusedVariables false
set_option linter.unusedSimpArgs false
namespace Go.AV
section
variable {P : Program} {G : Nat → Prop} {n : Nat} {own : List Own} {o : Oper}
theorem opE_storeA {ops : Array Oper} {E : EnvF} {p q : Operand} {v : Value} {e : TypeId} {sz : Nat} {es : List (List AV)} {k : Nat} {ys : List AV} {x : AV} (i : Nat) (ho : o.op = .store e p q) (hd : o.dst = none)
    (hp : Ev E p (AV.is (elemPtr v (k * sz)))) (hq : Ev E q x) (hx : AsCells x ys) (hi : own[i]? = some (.arr v e sz es)) (hs : ∀ w, (sizeOf e).run P w = .ok sz w) (hys : ys.length = sz) (hl : k < es.length) :
    OpE P G n own ops o E (fun _ : Unit => True) (fun _ => own.set i (.arr v e sz (es.set k ys))) (fun _ => AV.int 0) :=
  fun w0 R0 R a w h1 h3 h2 => by
    have e1 : a.eval p = _ := ev_lookA (ops := ops) hp (by simp [ho, Op.operands]) h2
    have e2 := hx R _ (ev_lookA (ops := ops) hq (by simp [ho, Op.operands]) h2)
    obtain ⟨hR, hu, xs, hown, hdc⟩ := h1.owned _ (List.mem_of_getElem? hi)
    have hsz : (a.eval q).cells.size = ys.length := by rw [← Array.length_toList]; exact e2.1
    rcases hown.2 with ⟨rfl, hz⟩ | ⟨g, cap, cur, rfl, hbase, hg', hn, hm, hcs, htake⟩
    · rw [hz] at hl; simp at hl
    · have hfl : xs.length = es.length * sz := hown.1
      have hk1 : k * sz + sz ≤ es.length * sz := by
        have := Nat.mul_le_mul_right sz (show k + 1 ≤ es.length by omega)
        rwa [Nat.add_mul, Nat.one_mul] at this
      have hk2 : es.length * sz ≤ cap * sz := Nat.mul_le_mul_right sz hn
      have e3 : elemPtr (.slice (some ⟨g, 0, none⟩) es.length cap) (k * sz) = .pointer (some ⟨g, k * sz, none⟩) := by
        show Value.pointer (some (Addr.add ⟨g, 0, none⟩ (k * sz))) = _
        unfold Addr.add; split <;> simp_all
      have hcur : w.heap[g]? = some (.cells cur.toList.toArray e (0, 0)) := by simpa using hg'
      have hst := run_storeAt (P := P) (t := e) (off := k * sz) (u := a.eval q) hcur (by rw [hsz, hys]; exact hs w) (by rw [hsz, hys, Array.length_toList, hcs]; omega) (fun u hu => by
        obtain ⟨j, hj⟩ := List.getElem?_of_mem hu
        have hjl : j < ys.length := by rw [← e2.1]; exact (List.getElem?_eq_some_iff.1 hj).1
        exact (e2.2 j u _ hj (List.getElem?_eq_getElem hjl)).2)
      have hrun : (execOp a.eval o).run P w = .ok .skip (w.setRow g (cur.toList.take (k * sz) ++ (a.eval q).cells.toList ++ cur.toList.drop (k * sz + (a.eval q).cells.size)).toArray) := by
        simp only [execOp, ho, e1, e3, hst, Sem.run_bind, Sem.run_pure, Result.andThen_ok]
      unfold Oper.wp
      rw [hrun, Oper.upon_skip, hd]
      refine ⟨(), .int .i64 0, R, trivial, rfl, core_set h1 hi rfl rfl ⟨hR, fun z hz => ?_, xs.take (k * sz) ++ (a.eval q).cells.toList ++ xs.drop (k * sz + (a.eval q).cells.toList.length), ⟨?_, .inr ⟨g, cap, _, by rw [List.length_set], hbase, setRow_heap w g _ _ e _ hg', by rw [List.length_set]; exact hn, hm, ?_, ?_⟩⟩, ?_⟩ (setRow_grown w g _), RSub.refl _, rfl⟩
      · rcases List.mem_or_eq_of_mem_set hz with h | h
        · exact hu z h
        · rw [h]; exact hys
      · rw [List.length_set]; simp; omega
      · simp; omega
      · rw [List.length_set, ← htake]
        have l1 : (a.eval q).cells.toList.length = sz := by rw [e2.1, hys]
        have l2 : (a.eval q).cells.size = sz := by rw [hsz, hys]
        have l3 : cur.toList.length = cap * sz := by rw [Array.length_toList, hcs]
        rw [← Array.length_toList]
        exact take_splice (by omega) (by rw [l1]; omega)
      · have hfe : (es.set k ys).flatten = splice es.flatten (k * sz) ys := flatten_set hu hys hl
        rw [hfe]
        refine denC_splice hdc e2 ?_
        rw [flatten_len hu, hys]; exact hk1
end
end Go.AV

set_option linter.unusedVariables false
set_option linter.unusedSimpArgs false
namespace Go.AV
open Go.RowKit (Below)
section
variable {P : Program} {G : Nat → Prop} {n : Nat} {own : List Own} {o : Oper} {E : EnvF}
theorem w_tlen {t e : TypeId} {p : Operand} {v : Value} {sz lo : Nat} {es : List (List AV)} (i : Nat) (ho : o.op = .call { callee := .builtin .len, args := #[p], argTypes := #[t] }) (ht : P.underlying t = some (.slice e)) (hp : Ev E p (AV.is (tailV lo sz v))) (hi : own[i]? = some (.arr v e sz es)) : OpW P G n own o E (AV.int ((es.length - lo : Nat) : Int)) := opW_core fun w0 R0 R a w hcore he => by
  have h1 : a.eval p = _ := ev_use hp (by simp [ho, Op.operands, Call.operands]) he
  obtain ⟨_, _, xs, hown, _⟩ := hcore.owned _ (List.mem_of_getElem? hi)
  obtain ⟨oa, c, rfl, _⟩ := own_form hown
  have hel : P.elem t = e := by simp [Program.elem, ht]
  have h2 := fun (b : Option Addr) => run_len_slice (P := P) w t o.type b (es.length - lo) (c - lo) (by rw [hel]; exact ht)
  exact ⟨.int .i64 (es.length - lo : Nat), by simp only [execOp, ho, resolve, invoke, builtin, List.map_toArray, List.map_cons, List.map_nil, h1, tailV, sliced, h2, Sem.run_bind, Sem.run_pure, Result.andThen_ok, goInt], rfl⟩
theorem w_tidx {t e : TypeId} {p q : Operand} {v : Value} {sz lo : Nat} {es : List (List AV)} {k : Int} (i : Nat) (ho : o.op = .indexAddr t p q) (ht : P.underlying t = some (.slice e)) (hsz : ∀ w, (sizeOf e).run P w = .ok sz w) (hp : Ev E p (AV.is (tailV lo sz v))) (hi : own[i]? = some (.arr v e sz es)) (hq : Ev E q (AV.int k)) (h0 : 0 ≤ k) (hk : lo + k < es.length) :
    OpW P G n own o E (AV.is (elemPtr v ((lo + k.toNat) * sz))) := opW_core fun w0 R0 R a w hcore he => by
  have h1 : a.eval p = _ := ev_use hp (by simp [ho, Op.operands]) he
  have h2 : a.eval q = .int .i64 k := ev_use hq (by simp [ho, Op.operands]) he
  obtain ⟨_, _, xs, hown, _⟩ := hcore.owned _ (List.mem_of_getElem? hi)
  rcases hown.2 with ⟨rfl, hz⟩ | ⟨g, cap, cur, rfl, _, _, hn, _⟩
  · rw [hz] at hk; simp at hk; omega
  · have hel : P.elem t = e := by simp [Program.elem, ht]
    have hne : ¬ cap = lo := by omega
    have hk2 : k < ((es.length - lo : Nat) : Int) := by omega
    have h3 := run_indexAt_slice (P := P) w t ((⟨g, 0, none⟩ : Addr).add (lo * sz)) (es.length - lo) (cap - lo) .i64 k (by rw [hel]; exact ht)
    rw [if_pos ⟨h0, hk2⟩, hel, hsz, Result.andThen_ok] at h3
    have e : (lo + k.toNat) * sz = lo * sz + k.toNat * sz := Nat.add_mul _ _ _
    refine ⟨.pointer (some (Addr.add ((⟨g, 0, none⟩ : Addr).add (lo * sz)) (k.toNat * sz))), by simp only [execOp, ho, h1, h2, tailV, sliced, if_neg hne, Option.map_some, h3, Sem.run_bind, Sem.run_pure, Result.andThen_ok], ?_⟩
    rw [e]
    show Value.pointer _ = Value.pointer (some (Addr.add ⟨g, 0, none⟩ (lo * sz + k.toNat * sz)))
    simp only [addr_add, Nat.zero_add]
/-- nil, cut to nothing. -/
theorem w_nilhi {t e : TypeId} {p q : Operand} {sz : Nat} (ho : o.op = .slice t p none (some q) none) (ht : P.underlying t = some (.slice e)) (hsz : ∀ w, (sizeOf e).run P w = .ok sz w) (hp : Ev E p (AV.is (.slice none 0 0))) (hq : Ev E q (AV.int (0 : Nat))) : OpW P G n own o E (AV.is (.slice none 0 0)) := opW_val fun R a w _ he => by
  have e1 : a.eval p = _ := ev_use hp (by simp [ho, Op.operands]) he
  have e2 : a.eval q = .int .i64 0 := ev_use hq (by simp [ho, Op.operands]) he
  have hel : P.elem t = e := by simp [Program.elem, ht]
  have hr1 := run_slice_h (P := P) (w := w) (t := t) (a := none) (len := 0) (cap := 0) (by rw [hel]; exact ht) .i64 0 (by omega) (by omega)
  rw [hel, hsz, Result.andThen_ok] at hr1
  exact ⟨.slice none 0 0, by simp only [execOp, ho, e1, e2, Option.map_some, Option.map_none, run_sliceAt_slice w t _ _ _ _ (by rw [hel]; exact ht), hr1, Sem.run_bind, Sem.run_pure, Result.andThen_ok]; rfl, rfl⟩
/-- append([]T(nil), make([]T, m)...): a new row. -/
theorem sq_appendZ0 {ops : Array Oper} {rest : List Oper} {env : List (Nat × AV)} {K : AState → Prop} {t tn e : TypeId} {p q : Operand} {kn : IntKind} {d sz by' m : Nat} {inf : TypeInfo} {z : Value} (hg : o.guard = none) (ho : o.op = .call { callee := .builtin .append, args := #[p, q], argTypes := #[t, tn] }) (hd : o.dst = some d) (hn : Nat.blt d n = true)
    (ht : P.underlying t = some (.slice e)) (htn : P.underlying tn = some (.int kn)) (hinf : P.info? e = some inf) (hz : inf.zero = some z) (hsz : inf.size = sz) (hby : inf.bytes = by') (hzs : z.cells.size = sz) (hpos' : Nat.ble 1 sz = true) (h1z : z.cells.toList.all Value.oneCell' = true) (hp : Ev (getv · env) p (AV.is (.slice none 0 0))) (hq : Ev (getv · env) q (AV.int m))
    (hm : 0 < m) (hlen : m * by' ≤ 140737488355328) (hlen2 : m ≤ 9223372036854775807) (k : ∀ v', ASeq P G n ops rest ⟨.arr v' e sz (List.replicate m (z.cells.toList.map zeroA)) :: own, (d, AV.is v') :: env⟩ K) : ASeq P G n ops (o :: rest) ⟨own, env⟩ K :=
  opS_run hg fun w0 R0 R a w ⟨h1, h2, h3, h4⟩ => by
    have hpos := Nat.le_of_ble_eq_true hpos'
    have e1 : a.eval p = _ := ev_st (s := ⟨own, env⟩) (o := o) hp h2
    have e2 : a.eval q = .int .i64 m := ev_st (s := ⟨own, env⟩) (o := o) hq h2
    have hold : (Builtin.firstCells inf.size 0 (.slice none 0 0)).run P w.drew = .ok ([] : List Value).toArray w.drew := rfl
    have hr := Lib.run_append_grow_zeros (P := P) w t tn o.type e inf z .i64 kn ht htn hinf hz none 0 0 [] hold m hm (by omega) (by omega) (by omega) (by rw [hby]; omega) (by rw [hby]; exact growslice_fits (by omega) (by rw [Nat.zero_add]; exact hlen))
    rw [Nat.zero_add] at hr
    have hex : (execOp a.eval o).run P w = .ok (.value (slv w.heap.size m (grownCap w m 0 e))) (w.drew.alloc (.cells (([] : List Value).toArray ++ Builtin.zeroCells z.cells m ++ Builtin.zeroCells z.cells (grownCap w m 0 e - m)) e)) := by
      simp only [execOp, ho, resolve, invoke, builtin, Sem.run_bind, Sem.run_pure, Result.andThen_ok, List.map_toArray, List.map_cons, List.map_nil, e1, e2, hr]
    unfold Oper.wp
    rw [hex, Oper.upon_value, hd]
    have hge := grownCap_ge w m 0 e
    have hcm2 : grownCap w m 0 e ≤ maxLen := grownCap_le_maxLen w m 0 e (by unfold maxLen; omega)
    refine ⟨_, R, k _, RSub.refl _, core_arr_new (sz := sz) (m := m) (cap := grownCap w m 0 e) (core_drew h1) (by simp) hge hcm2 ?_ (fun x hx => ?_) ?_, env_put h2 (RSub.refl _) (by rw [h3]; exact Nat.blt_eq.mp hn) rfl, by rw [size_put]; exact h3, by rw [defers_put]; exact h4⟩
    · simp only [Array.size_append, List.size_toArray, List.length_nil, Nat.zero_add, size_zeroCells, hzs, ← Nat.add_mul]
      congr 1; omega
    · rw [(List.mem_replicate.1 hx).2]; simp [hzs]
    · have hsz3 : (([] : List Value).toArray ++ Builtin.zeroCells z.cells m).toList.length = m * sz := by simp only [Array.length_toList, Array.size_append, List.size_toArray, List.length_nil, Nat.zero_add, size_zeroCells, hzs]
      rw [Array.toList_append, List.take_left' hsz3, Array.toList_append]
      exact zero_den hzs h1z (by omega) m
/-- A source whose cells are known. -/
def SrcE (own : List Own) (E : EnvF) (q : Operand) (sz : Nat) (fs : List (List AV)) : Prop :=
  ∀ (G : Nat → Prop) (w0 : World) (R0 R : RHeap) (a : Act) (w : World), Core G w0 R0 own R w → (∀ t, q = .tmp t → ∀ y, E t = some y → y.den R (a.tmps.getD t undef)) →
    (∀ f ∈ fs, f.length = sz) ∧ ∃ oa cap vs, a.eval q = .slice oa fs.length cap ∧ (fs ≠ [] → ∃ ad, oa = some ad ∧ (∀ j u, vs[j]? = some u → w.cell? (ad.add j) = some u) ∧ DenC R vs fs.flatten)
def headV (k sz : Nat) : Value → Value
  | .slice a _ c => sliced a 0 k c sz
  | v => v
theorem srcE_list {q : Operand} {sz : Nat} {fs : List (List AV)} (hq : Ev E q (AV.list sz fs)) : SrcE own E q sz fs := fun G w0 R0 R a w hc he => by
  obtain ⟨oa, c, e2, _, _, hu, hcell⟩ := hq R a he
  refine ⟨hu, ?_⟩
  by_cases hne : fs = []
  · exact ⟨oa, c, [], e2, fun h => absurd hne h⟩
  · obtain ⟨ad, rfl, hca⟩ := hcell hne
    obtain ⟨vs, _, h2, h3⟩ := list_cells (sz := sz) hc.rle hca
    exact ⟨_, c, vs, e2, fun _ => ⟨ad, rfl, h2, h3⟩⟩
theorem srcE_tail {q : Operand} {v : Value} {k : Nat} {e : TypeId} {sz : Nat} {es : List (List AV)} (i : Nat) (hi : own[i]? = some (.arr v e sz es)) (hq : Ev E q (AV.is (tailV k sz v))) (hk : k ≤ es.length) : SrcE own E q sz (es.drop k) := fun G w0 R0 R a w hc he => by
  have e1 : a.eval q = _ := hq R a he
  have hok := hc.owned _ (List.mem_of_getElem? hi)
  have hu := hok.2.1
  refine ⟨fun f hf => hu f (List.mem_of_mem_drop hf), ?_⟩
  obtain ⟨_, _, xs0, hown0, _⟩ := hok
  rcases hown0.2 with ⟨h1, h2⟩ | ⟨g, cap, cur0, h1, _⟩
  · subst h1
    have h3 : es = [] := List.eq_nil_of_length_eq_zero h2
    subst h3
    have : k = 0 := by simpa using hk
    subst this
    exact ⟨none, 0, [], by rw [e1]; rfl, fun h => absurd rfl h⟩
  · subst h1
    by_cases hne : es.drop k = []
    · refine ⟨_, cap - k, [], by rw [e1, List.length_drop]; rfl, fun h => absurd hne h⟩
    · have hsrc := src_own (own := own) (E := E) (q := q) (k := k) i hi hq
      obtain ⟨_, h7⟩ := hsrc G w0 R0 R a w hc he
      obtain ⟨ad, c, vs, k1, k2, k3⟩ := h7 hne
      exact ⟨_, c, vs, k1, fun _ => ⟨ad, rfl, k2, k3⟩⟩
theorem srcE_head {q : Operand} {v : Value} {k : Nat} {e : TypeId} {sz : Nat} {es : List (List AV)} (i : Nat) (hi : own[i]? = some (.arr v e sz es)) (hq : Ev E q (AV.is (headV k sz v))) (hk : k ≤ es.length) : SrcE own E q sz (es.take k) := fun G w0 R0 R a w hc he => by
  have e1 : a.eval q = _ := hq R a he
  have hok := hc.owned _ (List.mem_of_getElem? hi)
  have hu := hok.2.1
  have hlk : (es.take k).length = k := by rw [List.length_take]; omega
  refine ⟨fun f hf => hu f (List.mem_of_mem_take hf), ?_⟩
  obtain ⟨_, _, xs0, hown0, _⟩ := hok
  rcases hown0.2 with ⟨h1, h2⟩ | ⟨g, cap, cur0, h1, _⟩
  · subst h1
    have h3 : es = [] := List.eq_nil_of_length_eq_zero h2
    subst h3
    have : k = 0 := by simpa using hk
    subst this
    exact ⟨none, 0, [], by rw [e1]; rfl, fun h => absurd rfl h⟩
  · subst h1
    have hv : headV k sz (slv g es.length cap) = slv g k cap := sliced_head g k cap sz
    rw [hv] at e1
    obtain ⟨hl, hlc, _, hu2, cur, xs, hg, hcs, htake, hxl, hd⟩ := own_vals (hc.owned _ (List.mem_of_getElem? hi))
    have hmul : k * sz ≤ es.length * sz := Nat.mul_le_mul_right sz hk
    refine ⟨_, cap, xs.take (k * sz), by rw [e1, hlk], fun _ => ⟨_, rfl, fun j u hu' => ?_, ?_⟩⟩
    · have hj : j < k * sz := by have := (List.getElem?_eq_some_iff.1 hu').1; rw [List.length_take] at this; omega
      rw [List.getElem?_take_of_lt hj, ← htake, List.getElem?_take_of_lt (by omega), Array.getElem?_toList] at hu'
      rw [addr_add, Nat.zero_add]
      simp [World.cell?, hg, hu']
    · rw [flatten_take k hu]
      exact ⟨by simp [hd.1], fun i u x hu' hx => by
        by_cases hij : i < k * sz
        · simp only [List.getElem?_take_of_lt hij] at hu' hx; exact hd.2 i u x hu' hx
        · rw [List.getElem?_eq_none (by simp; omega)] at hu'; cases hu'⟩
theorem w_ahiT {t e : TypeId} {p q : Operand} {v : Value} {sz : Nat} {es : List (List AV)} {k : Int} (i : Nat) (ho : o.op = .slice t p none (some q) none) (ht : P.underlying t = some (.slice e)) (hsz : ∀ w, (sizeOf e).run P w = .ok sz w) (hp : Ev E p (AV.is v)) (hi' : own[i]? = some (.arr v e sz es)) (hq : Ev E q (AV.int k)) (h0 : 0 ≤ k) (h1 : k ≤ es.length) :
    OpW P G n own o E (AV.is (headV k.toNat sz v)) := opW_core fun w0 R0 R a w hcore he => by
  have e1 : a.eval p = v := ev_use hp (by simp [ho, Op.operands]) he
  have e2 : a.eval q = .int .i64 k := ev_use hq (by simp [ho, Op.operands]) he
  have hel : P.elem t = e := by simp [Program.elem, ht]
  obtain ⟨_, _, xs, hown, _⟩ := hcore.owned _ (List.mem_of_getElem? hi')
  obtain ⟨oa, c, rfl, hnc⟩ := own_form hown
  have hr1 := run_slice_h (P := P) (w := w) (t := t) (a := oa) (len := es.length) (cap := c) (by rw [hel]; exact ht) .i64 k h0 (by omega)
  rw [hel, hsz, Result.andThen_ok] at hr1
  exact ⟨sliced oa 0 k.toNat c sz, by simp only [execOp, ho, e1, e2, Option.map_some, Option.map_none, run_sliceAt_slice w t _ _ _ _ (by rw [hel]; exact ht), hr1, Sem.run_bind, Sem.run_pure, Result.andThen_ok], rfl⟩
theorem opE_appendS {ops : Array Oper} {t e : TypeId} {p q : Operand} {sz by' : Nat} {inf : TypeInfo} {z : Value} {v : Value} {es fs : List (List AV)} (i : Nat) (ho : o.op = .call { callee := .builtin .append, args := #[p, q], argTypes := #[t, t] }) (ht : P.underlying t = some (.slice e)) (hinf : P.info? e = some inf) (hz : inf.zero = some z) (hsz : inf.size = sz) (hby : inf.bytes = by') (hzs : z.cells.size = sz) (hpos : Nat.ble 1 sz = true) (hpos2 : Nat.ble 1 by' = true) (hp : Ev E p (AV.is v)) (hq : SrcE own E q sz fs) (hi : own[i]? = some (.arr v e sz es))
    (hlen : (es.length + fs.length) * by' ≤ 140737488355328) : OpE P G n own ops o E (fun _ : Value => True) (fun v' => own.set i (.arr v' e sz (es ++ fs))) (fun v' => AV.is v') :=
  fun w0 R0 R a w h1 h3 h2 => by
    have e1 : a.eval p = v := ev_lookA (ops := ops) hp (by simp [ho, Op.operands, Call.operands]) h2
    obtain ⟨hu, oa, c, ns, e2, hcell⟩ := hq G w0 R0 R a w h1 (fun t ht y hy => h2 t (looks_tmps (by subst ht; exact List.mem_filterMap.2 ⟨.tmp t, by simp [ho, Op.operands, Call.operands], rfl⟩)) y hy)
    obtain ⟨hR, hue, xs, hown, hdc⟩ := h1.owned _ (List.mem_of_getElem? hi)
    have hb1 := Nat.le_of_ble_eq_true hpos
    have hb2 := Nat.le_of_ble_eq_true hpos2
    have hsum : es.length + fs.length ≤ 140737488355328 := Nat.le_trans (Nat.le_mul_of_pos_right _ hb2) hlen
    have hufs : ∀ x ∈ es ++ fs, x.length = sz := fun x hx => by
      rcases List.mem_append.1 hx with h | h
      · exact hue x h
      · exact hu x h
    by_cases hfs : fs = []
    · subst hfs
      have hrun : ∃ v', (Builtin.append_ #[t, t] o.type #[v, a.eval q]).run P w = .ok v' w ∧ v' = v := by
        refine ⟨v, ?_, rfl⟩
        rw [e2]
        rcases hown.2 with ⟨rfl, hz0⟩ | ⟨g, cap, cur, rfl, _, _, hnc, _⟩
        · cases oa with
          | none => simp [Builtin.append_, run_underlying ht, sizeOf, typeInfo, hinf, Builtin.lenOf, Builtin.firstCells, hz0]
          | some ad => simp [Builtin.append_, run_underlying ht, sizeOf, typeInfo, hinf, Builtin.lenOf, Builtin.firstCells, loadCells, loadCellsFrom, hz0]
        · cases oa with
          | none => simp [Builtin.append_, run_underlying ht, sizeOf, typeInfo, hinf, Builtin.lenOf, Builtin.firstCells, hnc, storeCells]
          | some ad => simp [Builtin.append_, run_underlying ht, sizeOf, typeInfo, hinf, Builtin.lenOf, Builtin.firstCells, loadCells, loadCellsFrom, hnc, storeCells]
      obtain ⟨v', hr, rfl⟩ := hrun
      have hex : (execOp a.eval o).run P w = .ok (.value v') w := by
        simp only [execOp, ho, resolve, invoke, builtin, Sem.run_bind, Sem.run_pure, Result.andThen_ok, List.map_toArray, List.map_cons, List.map_nil, e1, hr]
      unfold Oper.wp
      rw [hex, Oper.upon_value]
      have hset : own.set i (.arr v' e sz (es ++ [])) = own := by
        rw [List.append_nil]
        obtain ⟨hlt, he⟩ := List.getElem?_eq_some_iff.1 hi
        rw [← he]; exact List.set_getElem_self hlt
      exact ⟨v', v', R, trivial, rfl, by show Core G w0 R0 (own.set i (.arr v' e sz (es ++ []))) R w; rw [hset]; exact h1, RSub.refl _, rfl⟩
    · obtain ⟨ad, rfl, hn2, hn3⟩ := hcell hfs
      have hn1 : ns.length = fs.flatten.length := hn3.1
      have hnl : ns.length = fs.length * sz := by rw [hn1, flatten_len hu]
      have hone : ∀ u ∈ ns, u.oneCell' = true := fun u hm => by
        obtain ⟨j, hj⟩ := List.getElem?_of_mem hm
        have hjl : j < fs.flatten.length := by rw [← hn1]; exact (List.getElem?_eq_some_iff.1 hj).1
        exact (hn3.2 j u _ hj (List.getElem?_eq_getElem hjl)).2
      obtain ⟨v', w', hr, hown', hgr, _, hblk⟩ := run_append_own_at (P := P) w 0 t o.type e inf z sz by' ht hinf hz hsz hby hzs hb1 v es.length xs hown ad fs.length c ns hnl hn2 hone (by unfold maxLen; omega) hlen (Nat.zero_le _)
      have hex : (execOp a.eval o).run P w = .ok (.value v') w' := by
        simp only [execOp, ho, resolve, invoke, builtin, Sem.run_bind, Sem.run_pure, Result.andThen_ok, List.map_toArray, List.map_cons, List.map_nil, e1, e2, hr]
      unfold Oper.wp
      rw [hex, Oper.upon_value]
      refine ⟨v', v', R, trivial, rfl, core_repl h1 hi (fun b hb => ?_) ⟨fun b hb => ?_, hufs, xs ++ ns, ?_, ?_⟩ hgr, RSub.refl _, rfl⟩
      · simp only [Own.blk] at hb ⊢
        rcases hblk with h | h
        · exact .inl (by rw [← h]; exact hb)
        · rw [hb] at h; injection h with h; exact .inr h
      · rcases hblk with h | h
        · exact hR b (by rw [← h]; exact hb)
        · rw [hb] at h; injection h with h; subst h; exact rle_none h1.rle
      · rw [List.length_append]; exact hown'
      · rw [List.flatten_append]; exact denC_append' hdc hn3

end
end Go.AV

namespace Go.Proofs
open Go.Shelf
set_option linter.unusedVariables false
def Tryz.join_ren : Go.Shelf.Ren := ⟨fun | 156 => 97 | 165 => 140 | 166 => 141 | 169 => 142 | 240 => 161 | 241 => 162 | 276 => 191 | 277 => 192 | n => n, fun | 31 => 34 | 9 => 9 | 3 => 3 | 4 => 4 | 0 => 0 | 20 => 20 | 72 => 119 | 76 => 99 | 70 => 117 | 37 => 22 | 75 => 98 | 127 => 132 | 164 => 157 | 5 => 5 | 80 => 77 | n => n, fun | n => n⟩
theorem Tryz.join : Go.Proofs.Lays.n156 Tryz.prog Tryz.join_ren := {
  mixed := by kernel_rfl
  f156 := Tryz.func97.trans (congrArg some (by kernel_rfl))
  f165 := Tryz.func140.trans (congrArg some (by kernel_rfl))
  f166 := Tryz.func141.trans (congrArg some (by kernel_rfl))
  f169 := Tryz.func142.trans (congrArg some (by kernel_rfl))
  f240 := Tryz.func161.trans (congrArg some (by kernel_rfl))
  f241 := Tryz.func162.trans (congrArg some (by kernel_rfl))
  f276 := Tryz.func191.trans (congrArg some (by kernel_rfl))
  f277 := Tryz.func192.trans (congrArg some (by kernel_rfl))
  t0 := Tryz.underlying0
  a0 := Tryz.isAgg0
  z0 := Tryz.sizeOf0
  v0 := Tryz.zeroValue0
  t3 := Tryz.underlying3
  a3 := Tryz.isAgg3
  z3 := Tryz.sizeOf3
  v3 := Tryz.zeroValue3
  t4 := Tryz.underlying4
  a4 := Tryz.isAgg4
  z4 := Tryz.sizeOf4
  v4 := Tryz.zeroValue4
  t9 := Tryz.underlying9
  a9 := Tryz.isAgg9
  z9 := Tryz.sizeOf9
  v9 := Tryz.zeroValue9
  t20 := Tryz.underlying20
  a20 := Tryz.isAgg20
  z20 := Tryz.sizeOf20
  v20 := Tryz.zeroValue20
  t31 := Tryz.underlying34
  a31 := Tryz.isAgg34
  z31 := Tryz.sizeOf34
  v31 := Tryz.zeroValue34
  t37 := Tryz.underlying22
  a37 := Tryz.isAgg22
  z37 := Tryz.sizeOf22
  v37 := Tryz.zeroValue22
  t70 := Tryz.underlying117
  a70 := Tryz.isAgg117
  z70 := Tryz.sizeOf117
  v70 := Tryz.zeroValue117
  t72 := Tryz.underlying119
  a72 := Tryz.isAgg119
  z72 := Tryz.sizeOf119
  v72 := Tryz.zeroValue119
  t75 := Tryz.underlying98
  a75 := Tryz.isAgg98
  z75 := Tryz.sizeOf98
  v75 := Tryz.zeroValue98
  t76 := Tryz.underlying99
  a76 := Tryz.isAgg99
  z76 := Tryz.sizeOf99
  v76 := Tryz.zeroValue99
  t127 := Tryz.underlying132
  a127 := Tryz.isAgg132
  z127 := Tryz.sizeOf132
  v127 := Tryz.zeroValue132
  t164 := Tryz.underlying157
  a164 := Tryz.isAgg157
  z164 := Tryz.sizeOf157
  v164 := Tryz.zeroValue157 }
end Go.Proofs

set_option linter.unusedVariables false
set_option linter.unusedSimpArgs false
set_option maxRecDepth 100000
set_option maxHeartbeats 1000000
namespace Go.Proofs.YtmlmmgeadombbaaGreatDoor
open Go Go.AV Go.M
attribute [local irreducible] OpW OpA OpS AWP FSpec ESpec GSpec OpE RetOk RetOkG RvDen Le Ev GuardIs SrcIs Int.tmod Int.tdiv IntKind.wrap
theorem core_keep {R : RHeap} {w : World} {o : Own} (hr : RLe R w) (ho : Own.ok R w o) : Core (blksOf [o]) w R [o] R w :=
  ⟨rfl, rfl, rfl, Nat.le_refl _, fun _ _ _ => rfl, hr, fun _ _ => rfl, fun q hq => by rw [List.mem_singleton.1 hq]; exact ho, fun q hq b e => .inr ⟨q, hq, e⟩, by
    simp only [List.filterMap_cons, List.filterMap_nil]
    cases Own.blk o <;> simp⟩
theorem strs_flat (l : List Str) : (l.map fun s => [AV.str s]).flatten = l.map AV.str := by
  induction l with
  | nil => rfl
  | cons x l ih => simp [ih]
theorem bytes_back (l : List Str) : (l.map fun s => (⟨s.toArray⟩ : ByteArray)).map (·.data.toList) = l := by
  rw [List.map_map]
  exact (List.map_congr_left fun x _ => rfl : _ = l.map id).trans (List.map_id l)
theorem joinX : Builder.Extra Tryz.prog Tryz.join_ren where
  sizeBuilder := by kernel_rfl
  liesBuilder := by kernel_rfl
  t5 := Tryz.underlying5
  a5 := Tryz.isAgg5
  z5 := Tryz.sizeOf5
  v5 := Tryz.zeroValue5
  infoByte := by kernel_rfl
  cellsByte := by kernel_rfl
  sizeByte := by kernel_rfl
  neB5 := by decide
theorem join_own (v : Value) (l : List Str) (hl : l.length ≤ 1048576) (hs : (joinW l).length ≤ 1048576) : GSpec Tryz.prog 97 [AV.is v, AV.str [59, 32]] [.arr v 9 1 (l.map fun s => [AV.str s])] (fun _ : Unit => True) (fun _ => [.arr v 9 1 (l.map fun s => [AV.str s])]) (fun _ => AV.str (joinW l)) := by
  unfold GSpec
  intro R w vs hr hd hok hnd
  match vs, hd.1 with
  | [u, p], _ =>
    rw [show u = v from hd.2 0 u _ rfl rfl, show p = Value.string ⟨#[59, 32]⟩ from hd.2 1 p _ rfl rfl]
    have ho := hok _ List.mem_cons_self
    obtain ⟨hR, hu, xs, hown, hdc⟩ := ho
    rcases hown.2 with ⟨h1, h2⟩ | ⟨g, cap, cur, h1, _, hg, hn, hm, _⟩
    · have hl0 : l = [] := List.eq_nil_of_length_eq_zero (by simpa using h2)
      subst hl0; subst h1
      refine (Any.strings_Join_none Tryz.join joinX none 0 ⟨#[59, 32]⟩ w).mono fun e w' ⟨he, hw⟩ => ?_
      subst hw
      exact ⟨(), _, R, trivial, he, rfl, core_keep hr (hok _ List.mem_cons_self)⟩
    · subst h1
      have hlen : (l.map fun s => [AV.str s]).length = l.length := List.length_map _
      have hgs : g < w.heap.size := by
        have := hg; exact (Array.getElem?_eq_some_iff.1 this).1
      have hc := Any.strings_Join Tryz.join joinX g 0 cap (l.map fun s => ⟨s.toArray⟩) ⟨#[59, 32]⟩ w (fun j x hx => by
        rw [List.getElem?_map] at hx
        cases hs9 : l[j]? with
        | none => rw [hs9] at hx; cases hx
        | some s =>
          rw [hs9] at hx; injection hx with hx; subst hx
          have hx9 : ((l.map fun s => [AV.str s]).flatten)[j]? = some (AV.str s) := by
            rw [strs_flat, List.getElem?_map, hs9]; rfl
          obtain ⟨g', u9, _, k2, k3, k4, _⟩ := own_cells (hok _ List.mem_cons_self) hx9
          injection k2 with k2; subst k2
          rw [Nat.zero_add, k3, show u9 = Value.string ⟨s.toArray⟩ from k4]) hgs (by rw [List.length_map]; omega) (by rw [List.length_map]; omega) (by
        rw [bytes_back, show (⟨#[59, 32]⟩ : ByteArray).data.toList = [59, 32] from rfl, joinW_lib]; omega)
      rw [bytes_back, show (⟨#[59, 32]⟩ : ByteArray).data.toList = [59, 32] from rfl, joinW_lib, List.length_map] at hc
      rw [hlen]
      refine hc.mono fun e w' ⟨he, hb⟩ => ?_
      subst he
      refine ⟨(), _, R, trivial, rfl, rfl, ?_⟩
      have hcs := core_keep hr (hok _ List.mem_cons_self)
      rw [hlen] at hcs
      exact hcs.step hb (fun b o hbo => by
        have h1 := hr b o hbo
        have hlt : b < w.heap.size := (Array.getElem?_eq_some_iff.1 h1).1
        rw [hb.block b hlt]; exact h1) fun _ _ => rfl
theorem hasVal_spec (k : Int) : FSpec Tryz.prog 44 [AV.int k] (AV.bool (hasValK k)) := by
  refine spec_of_awp Tryz.func44 rfl Tryz.ntmps44 rfl ?_
  refine awp_seq ?_
  refine awp_region ?_
  refine sq_plain rfl rfl rfl (w_assign rfl ev_cb) ?_
  refine sq_nil ?_
  refine awp_seq ?_
  refine awp_region ?_
  refine sq_plain rfl rfl rfl (w_move rfl (ev_tmp rfl)) ?_
  refine sq_plain rfl rfl rfl (w_eql rfl (ev_tmp rfl) ev_ci) ?_
  refine sq_plain rfl rfl rfl (w_move rfl (ev_tmp rfl)) ?_
  refine sq_grd rfl rfl (guard_f rfl rfl rfl) (fun hc => w_move rfl (ev_tmp rfl)) ?_
  refine sq_grd rfl rfl (guard_f rfl rfl rfl) (fun hc => w_eql rfl (ev_whn rfl hc) ev_ci) ?_
  refine sq_plain rfl rfl rfl (w_or rfl (ev_tmp rfl) (evif_w rfl)) ?_
  refine sq_plain rfl rfl rfl (w_assign rfl (ev_tmp rfl)) ?_
  refine sq_nil ?_
  refine awp_ret ?_
  exact retR rfl (rv_tmp' rfl (by first | rfl | (refine congrArg AV.bool ?_; simp_all; done)))
theorem hasBy_spec (k : Int) : FSpec Tryz.prog 45 [AV.int k] (AV.bool (hasByK k)) := by
  refine spec_of_awp Tryz.func45 rfl Tryz.ntmps45 rfl ?_
  refine awp_seq ?_
  refine awp_region ?_
  refine sq_plain rfl rfl rfl (w_assign rfl ev_cb) ?_
  refine sq_nil ?_
  refine awp_seq ?_
  refine awp_region ?_
  refine sq_plain rfl rfl rfl (w_move rfl (ev_tmp rfl)) ?_
  refine sq_plain rfl rfl rfl (w_eql rfl (ev_tmp rfl) ev_ci) ?_
  refine sq_plain rfl rfl rfl (w_move rfl (ev_tmp rfl)) ?_
  refine sq_grd rfl rfl (guard_f rfl rfl rfl) (fun hc => w_move rfl (ev_tmp rfl)) ?_
  refine sq_grd rfl rfl (guard_f rfl rfl rfl) (fun hc => w_eql rfl (ev_whn rfl hc) ev_ci) ?_
  refine sq_plain rfl rfl rfl (w_or rfl (ev_tmp rfl) (evif_w rfl)) ?_
  refine sq_plain rfl rfl rfl (w_assign rfl (ev_tmp rfl)) ?_
  refine sq_nil ?_
  refine awp_ret ?_
  exact retR rfl (rv_tmp' rfl (by first | rfl | (refine congrArg AV.bool ?_; simp_all; done)))
theorem isOp_spec (o : TOp) (hs : o.size ≤ 1048576) : FSpec Tryz.prog 95 [AV.agg o.cs] (AV.bool (isOp o)) := by
  have hs' := hs; unfold TOp.size at hs'
  refine spec_of_awp Tryz.func95 rfl Tryz.ntmps95 rfl ?_
  refine awp_seq ?_
  refine awp_region ?_
  refine sq_box rfl rfl rfl rfl (ev_tmp rfl) ?_
  intro b1
  refine sq_plain rfl rfl rfl (w_assign rfl ev_cb) ?_
  refine sq_nil ?_
  refine awp_seq ?_
  refine awp_region ?_
  refine sq_plain rfl rfl rfl (w_fldBn 0 rfl Tryz.underlying55 rfl Tryz.sizeOf3 (ev_tmp rfl) rfl) ?_
  refine sq_plain rfl rfl rfl (w_loadB1 0 rfl (ev_tmp rfl) rfl Tryz.isAgg3 rfl) ?_
  refine sq_plain rfl rfl rfl (w_call rfl Tryz.call62 rfl (within_spec _ _ _) (evl_cons (ev_tmp rfl) (evl_cons ev_ci (evl_cons ev_ci evl_nil)))) ?_
  refine sq_plain rfl rfl rfl (w_move rfl (ev_tmp rfl)) ?_
  refine sq_grd rfl rfl (guard_t rfl rfl rfl) (fun hc => w_fldBn 1 rfl Tryz.underlying55 rfl Tryz.sizeOf9 (ev_tmp rfl) rfl) ?_
  refine sq_grd rfl rfl (guard_t rfl rfl rfl) (fun hc => w_loadB1 0 rfl (ev_whn rfl hc) rfl Tryz.isAgg9 rfl) ?_
  refine sq_grd rfl rfl (guard_t rfl rfl rfl) (fun hc => w_call rfl Tryz.call118 rfl (goodKey_spec _ (by omega)) (evl_cons (ev_whn rfl hc) evl_nil)) ?_
  refine sq_plain rfl rfl rfl (w_and rfl (ev_tmp rfl) (evif_w rfl)) ?_
  refine sq_plain rfl rfl rfl (w_move rfl (ev_tmp rfl)) ?_
  refine sq_grd rfl rfl (guard_t rfl rfl rfl) (fun hc => w_fldBn 2 rfl Tryz.underlying55 rfl Tryz.sizeOf9 (ev_tmp rfl) rfl) ?_
  refine sq_grd rfl rfl (guard_t rfl rfl rfl) (fun hc => w_loadB1 0 rfl (ev_whn rfl hc) rfl Tryz.isAgg9 rfl) ?_
  refine sq_grd rfl rfl (guard_t rfl rfl rfl) (fun hc => w_call rfl Tryz.call138 rfl (goodVal_spec _ (by omega)) (evl_cons (ev_whn rfl hc) evl_nil)) ?_
  refine sq_plain rfl rfl rfl (w_and rfl (ev_tmp rfl) (evif_w rfl)) ?_
  refine sq_plain rfl rfl rfl (w_move rfl (ev_tmp rfl)) ?_
  refine sq_grd rfl rfl (guard_t rfl rfl rfl) (fun hc => w_fldBn 0 rfl Tryz.underlying55 rfl Tryz.sizeOf3 (ev_tmp rfl) rfl) ?_
  refine sq_grd rfl rfl (guard_t rfl rfl rfl) (fun hc => w_loadB1 0 rfl (ev_whn rfl hc) rfl Tryz.isAgg3 rfl) ?_
  refine sq_grd rfl rfl (guard_t rfl rfl rfl) (fun hc => w_call rfl Tryz.call44 rfl (hasVal_spec _) (evl_cons (ev_whn rfl hc) evl_nil)) ?_
  refine sq_grd rfl rfl (guard_t rfl rfl rfl) (fun hc => w_move rfl (ev_whn rfl hc)) ?_
  refine sq_grd rfl rfl (guard_wf rfl rfl rfl) (fun hc => w_fldBn 2 rfl Tryz.underlying55 rfl Tryz.sizeOf9 (ev_tmp rfl) rfl) ?_
  refine sq_grd rfl rfl (guard_wf rfl rfl rfl) (fun hc => w_loadB1 0 rfl (ev_whn rfl hc) rfl Tryz.isAgg9 rfl) ?_
  refine sq_grd rfl rfl (guard_wf rfl rfl rfl) (fun hc => w_seql rfl (ev_whn rfl hc) (ev_cs' (l := []) rfl)) ?_
  refine sq_grd rfl rfl (guard_t rfl rfl rfl) (fun hc => w_or rfl (ev_whn rfl hc) (evif_w2 rfl hc)) ?_
  refine sq_plain rfl rfl rfl (w_and rfl (ev_tmp rfl) (evif_w rfl)) ?_
  refine sq_plain rfl rfl rfl (w_move rfl (ev_tmp rfl)) ?_
  refine sq_grd rfl rfl (guard_t rfl rfl rfl) (fun hc => w_fldBn 3 rfl Tryz.underlying55 rfl Tryz.sizeOf3 (ev_tmp rfl) rfl) ?_
  refine sq_grd rfl rfl (guard_t rfl rfl rfl) (fun hc => w_loadB1 0 rfl (ev_whn rfl hc) rfl Tryz.isAgg3 rfl) ?_
  refine sq_grd rfl rfl (guard_t rfl rfl rfl) (fun hc => w_call rfl Tryz.call62 rfl (within_spec _ _ _) (evl_cons (ev_whn rfl hc) (evl_cons ev_ci (evl_cons ev_ci evl_nil)))) ?_
  refine sq_plain rfl rfl rfl (w_and rfl (ev_tmp rfl) (evif_w rfl)) ?_
  refine sq_plain rfl rfl rfl (w_move rfl (ev_tmp rfl)) ?_
  refine sq_grd rfl rfl (guard_t rfl rfl rfl) (fun hc => w_fldBn 0 rfl Tryz.underlying55 rfl Tryz.sizeOf3 (ev_tmp rfl) rfl) ?_
  refine sq_grd rfl rfl (guard_t rfl rfl rfl) (fun hc => w_loadB1 0 rfl (ev_whn rfl hc) rfl Tryz.isAgg3 rfl) ?_
  refine sq_grd rfl rfl (guard_t rfl rfl rfl) (fun hc => w_call rfl Tryz.call45 rfl (hasBy_spec _) (evl_cons (ev_whn rfl hc) evl_nil)) ?_
  refine sq_grd rfl rfl (guard_t rfl rfl rfl) (fun hc => w_move rfl (ev_whn rfl hc)) ?_
  refine sq_grd rfl rfl (guard_wf rfl rfl rfl) (fun hc => w_fldBn 3 rfl Tryz.underlying55 rfl Tryz.sizeOf3 (ev_tmp rfl) rfl) ?_
  refine sq_grd rfl rfl (guard_wf rfl rfl rfl) (fun hc => w_loadB1 0 rfl (ev_whn rfl hc) rfl Tryz.isAgg3 rfl) ?_
  refine sq_grd rfl rfl (guard_wf rfl rfl rfl) (fun hc => w_eql rfl (ev_whn rfl hc) ev_ci) ?_
  refine sq_grd rfl rfl (guard_t rfl rfl rfl) (fun hc => w_or rfl (ev_whn rfl hc) (evif_w2 rfl hc)) ?_
  refine sq_plain rfl rfl rfl (w_and rfl (ev_tmp rfl) (evif_w rfl)) ?_
  refine sq_plain rfl rfl rfl (w_assign rfl (ev_tmp rfl)) ?_
  refine sq_nil ?_
  refine awp_ret ?_
  exact retR rfl (rv_tmp' rfl (by first | rfl | (refine congrArg AV.bool ?_; simp_all; done)))
theorem goodOps1_spec (c : TOp) (hs : c.size ≤ 1048576) : FSpec Tryz.prog 94 [AV.agg c.cs] (AV.bool (!isOp c)) := by
  refine spec_of_awp Tryz.func94 rfl Tryz.ntmps94 rfl ?_
  refine awp_seq ?_
  refine awp_region ?_
  refine sq_box rfl rfl rfl rfl (ev_tmp rfl) ?_
  intro b1
  refine sq_plain rfl rfl rfl (w_assign rfl ev_cb) ?_
  refine sq_nil ?_
  refine awp_seq ?_
  refine awp_region ?_
  refine sq_plain rfl rfl rfl (w_loadA 0 rfl (ev_tmp rfl) rfl Tryz.isAgg55 Tryz.sizeOf55 rfl) ?_
  refine sq_plain rfl rfl rfl (w_call rfl Tryz.call95 rfl (isOp_spec _ (by first | assumption | omega)) (evl_cons (ev_tmp rfl) evl_nil)) ?_
  refine sq_plain rfl rfl rfl (w_not rfl (ev_tmp rfl)) ?_
  refine sq_plain rfl rfl rfl (w_assign rfl (ev_tmp rfl)) ?_
  refine sq_nil ?_
  refine awp_ret ?_
  exact retR rfl (rv_tmp' rfl (by first | rfl | (refine congrArg AV.bool ?_; simp_all; done)))
theorem goodOps_spec (l : List TOp) (hs : sizeL TOp.size l ≤ 1048576) : FSpec Tryz.prog 37 [AV.list 4 (l.map TOp.cs)] (AV.bool (goodOps l)) := by
  have hm : ∀ x ∈ l, x.size ≤ 1048576 := fun x hx => Nat.le_trans (sizeL_mem hx) hs
  refine spec_of_awp Tryz.func37 rfl Tryz.ntmps37 rfl ?_
  refine awp_seq ?_
  refine awp_region ?_
  refine sq_plain rfl rfl rfl (w_assign rfl ev_cb) ?_
  refine sq_nil ?_
  refine awp_seq ?_
  refine awp_region ?_
  refine sq_plain rfl rfl rfl (w_move rfl (ev_tmp rfl)) ?_
  refine sq_plain rfl rfl rfl (w_llen rfl Tryz.underlying24 (ev_tmp rfl)) ?_
  refine sq_plain rfl rfl rfl (w_leq rfl (ev_tmp rfl) ev_ci) ?_
  refine sq_plain rfl rfl rfl (w_move rfl (ev_tmp rfl)) ?_
  refine sq_grd rfl rfl (guard_t rfl rfl rfl) (fun hc => w_move rfl (ev_tmp rfl)) ?_
  refine sq_grd rfl rfl (guard_t rfl rfl rfl) (fun hc => w_call rfl Tryz.call93 rfl (containsFuncOp_spec _ _ _ (by first | (intros; trivial) | assumption | (intros; first | trivial | (simp_all; done)))) (evl_cons (ev_whn rfl hc) (evl_cons (ev_fun1 Tryz.call94 (fun c h => goodOps1_spec c h)) evl_nil))) ?_
  refine sq_grd rfl rfl (guard_t rfl rfl rfl) (fun hc => w_not rfl (ev_whn rfl hc)) ?_
  refine sq_plain rfl rfl rfl (w_and rfl (ev_tmp rfl) (evif_w rfl)) ?_
  refine sq_plain rfl rfl rfl (w_assign rfl (ev_tmp rfl)) ?_
  refine sq_nil ?_
  refine awp_ret ?_
  exact retR rfl (rv_tmp' rfl (by exact congrArg AV.bool (by simp only [List.length_map]; rfl)))
theorem opWords_spec : FSpec Tryz.prog 43 [] (AV.list 1 (opWs.map fun s => [AV.str s])) := by
  refine spec_of_awp Tryz.func43 rfl Tryz.ntmps43 rfl ?_
  refine awp_seq ?_
  refine awp_region ?_
  refine sq_plain rfl rfl rfl (w_assign rfl (ev_cnil (sz := 1))) ?_
  refine sq_nil ?_
  refine awp_seq ?_
  refine awp_region ?_
  refine sq_plain rfl rfl rfl (w_bslice rfl Tryz.underlying34 Tryz.sizeOf9 Tryz.zeroValue9 rfl rfl rfl rfl (bp_cons (ev_cs' (l := []) rfl) (as_str _) (bp_cons (ev_cs' (l := [114, 101, 97, 100]) rfl) (as_str _) (bp_cons (ev_cs' (l := [112, 117, 116]) rfl) (as_str _) (bp_cons (ev_cs' (l := [100, 114, 111, 112]) rfl) (as_str _) (bp_cons (ev_cs' (l := [97, 100, 100]) rfl) (as_str _) (bp_cons (ev_cs' (l := [110, 101, 101, 100]) rfl) (as_str _) (bp_cons (ev_cs' (l := [108, 97, 99, 107]) rfl) (as_str _) (bp_cons (ev_cs' (l := [105, 115]) rfl) (as_str _) bp_nil)))))))) rfl rfl) ?_
  refine sq_plain rfl rfl rfl (w_assign rfl (ev_tmp rfl)) ?_
  refine sq_nil ?_
  refine awp_ret ?_
  exact retR rfl (rv_tmp' rfl (by first | rfl | (refine congrArg AV.bool ?_; simp_all; done)))
theorem l5Words_spec : FSpec Tryz.prog 99 [] (AV.list 1 (opWs.map fun s => [AV.str s])) := by
  refine spec_of_awp Tryz.func99 rfl Tryz.ntmps99 rfl ?_
  refine awp_seq ?_
  refine awp_region ?_
  refine sq_plain rfl rfl rfl (w_assign rfl (ev_cnil (sz := 1))) ?_
  refine sq_nil ?_
  refine awp_seq ?_
  refine awp_region ?_
  refine sq_plain rfl rfl rfl (w_bslice rfl Tryz.underlying34 Tryz.sizeOf9 Tryz.zeroValue9 rfl rfl rfl rfl (bp_cons (ev_cs' (l := []) rfl) (as_str _) (bp_cons (ev_cs' (l := [114, 101, 97, 100]) rfl) (as_str _) (bp_cons (ev_cs' (l := [112, 117, 116]) rfl) (as_str _) (bp_cons (ev_cs' (l := [100, 114, 111, 112]) rfl) (as_str _) (bp_cons (ev_cs' (l := [97, 100, 100]) rfl) (as_str _) (bp_cons (ev_cs' (l := [110, 101, 101, 100]) rfl) (as_str _) (bp_cons (ev_cs' (l := [108, 97, 99, 107]) rfl) (as_str _) (bp_cons (ev_cs' (l := [105, 115]) rfl) (as_str _) bp_nil)))))))) rfl rfl) ?_
  refine sq_plain rfl rfl rfl (w_assign rfl (ev_tmp rfl)) ?_
  refine sq_nil ?_
  refine awp_ret ?_
  exact retR rfl (rv_tmp' rfl (by first | rfl | (refine congrArg AV.bool ?_; simp_all; done)))
theorem indexS_spec (l : List Str) (s : Str) : FSpec Tryz.prog 42 [AV.list 1 (l.map fun s => [AV.str s]), AV.str s] (AV.int (idxF l s 0)) := by
  refine spec_of_awp Tryz.func42 rfl Tryz.ntmps42 rfl ?_
  refine awp_len (t := 0) rfl fun hl => ?_
  try simp only [List.length_map] at hl
  refine awp_seq ?_
  refine awp_region ?_
  refine sq_plain rfl rfl rfl (w_assign rfl ev_ci) ?_
  refine sq_nil ?_
  refine awp_seq ?_
  refine awp_seq ?_
  refine awp_region ?_
  refine sq_plain rfl rfl rfl (w_move rfl (ev_tmp rfl)) ?_
  refine sq_plain rfl rfl rfl (w_llen rfl Tryz.underlying34 (ev_tmp rfl)) ?_
  refine sq_plain rfl rfl rfl (w_move rfl ev_ci) ?_
  refine sq_nil ?_
  refine awp_block ?_
  refine awp_loop_i [(0, _), (1, _), (7, _)] _ (fun (i : Nat) => i ≤ l.length ∧ idxF l s 0 = idxF (l.drop i) s i) (fun (i : Nat) => []) (fun (i : Nat) => [(8, AV.int i)]) (fun (i : Nat) => l.length - i) (0) ?_ (le_env ⟨rfl, rfl, rfl, rfl, trivial⟩) ?_
  · exact ⟨Nat.zero_le _, rfl⟩
  intro i hinv
  refine awp_seq ?_
  refine awp_region ?_
  refine sq_plain rfl rfl rfl (w_lss rfl (ev_tmp rfl) (ev_tmp rfl)) ?_
  refine sq_nil ?_
  refine awp_seq ?_
  refine awp_cond (ev_tmp rfl) ?_ ?_
  · intro h9
    have k9 := of_decide_eq_true h9; try simp only [List.length_map] at k9
    have hlt : i < l.length := by omega
    obtain ⟨x, hx⟩ := get_some hlt
    refine awp_skip ?_
    refine awp_seq ?_
    refine awp_block ?_
    refine awp_seq ?_
    refine awp_region ?_
    refine sq_plain rfl rfl rfl (w_move rfl (ev_tmp rfl)) ?_
    refine sq_plain rfl rfl rfl (w_assign rfl (ev_tmp rfl)) ?_
    refine sq_nil ?_
    refine awp_seq ?_
    refine awp_region ?_
    refine sq_plain rfl rfl rfl (w_move rfl (ev_tmp rfl)) ?_
    refine sq_plain rfl rfl rfl (w_move rfl (ev_tmp rfl)) ?_
    refine sq_plain rfl rfl rfl (w_move rfl (ev_tmp rfl)) ?_
    refine sq_plain rfl rfl rfl (w_idx rfl Tryz.underlying34 Tryz.sizeOf9 (ev_tmp rfl) (ev_tmp rfl) (by omega) (by simp only [Int.toNat_natCast, List.getElem?_map, hx, Option.map_some]; try rfl)) ?_
    refine sq_plain rfl rfl rfl (w_loadE1 rfl (ev_tmp rfl) Tryz.isAgg9 rfl) ?_
    refine sq_plain rfl rfl rfl (w_seql rfl (ev_tmp rfl) (ev_tmp rfl)) ?_
    refine sq_nil ?_
    refine awp_cond (ev_tmp rfl) ?_ ?_
    · intro h16
      rw [hinv.2, idxF_here hx (by simpa using h16)]
      refine awp_seq ?_
      refine awp_region ?_
      refine sq_plain rfl rfl rfl (w_move rfl (ev_tmp rfl)) ?_
      refine sq_plain rfl rfl rfl (w_assign rfl (ev_tmp rfl)) ?_
      refine sq_nil ?_
      refine awp_ret ?_
      exact retR rfl (rv_tmp' rfl (by rfl))
    · intro h16
      refine awp_skip ?_
      refine awp_region ?_
      refine sq_plain rfl rfl rfl (w_addi rfl (ev_tmp rfl) ev_ci (by first | omega | ((try simp only [List.length_map, List.length_take, List.length_cons, List.length_nil, chunks_len, szR] at *); omega) | (have hc2 := hc; simp only [Bool.and_eq_true, Bool.or_eq_true, Bool.or_eq_false_iff, Bool.and_eq_false_iff, Bool.not_eq_true', Bool.not_eq_false', decide_eq_true_eq, decide_eq_false_iff_not, beq_iff_eq, bne_iff_ne, List.length_map, List.length_take] at hc2; omega))) ?_
      refine sq_plain rfl rfl rfl (w_move rfl (ev_tmp rfl)) ?_
      refine sq_nil ?_
      refine round_end i (i + 1) ?_ ?_ (le_env ⟨rfl, rfl, rfl, rfl, trivial⟩)
      · exact ⟨by omega, by rw [hinv.2]; exact idxF_next hx (by simpa using h16)⟩
      · omega
  · intro h9
    have k9 := of_decide_eq_false h9; try simp only [List.length_map] at k9
    have hge : l.length ≤ i := by omega
    rw [hinv.2, idxF_end hge]
    refine awp_exit ?_
    refine awp_seq ?_
    refine awp_region ?_
    refine sq_plain rfl rfl rfl (w_assign rfl ev_ci) ?_
    refine sq_nil ?_
    refine awp_ret ?_
    exact retR rfl (rv_tmp' rfl (by rfl))
end Go.Proofs.YtmlmmgeadombbaaGreatDoor
