/- Texts of the claim, part 2. -/
import Derived.Sort.Grow
import Derived.Lib.LaidTab
import Derived.Lib.ItoaNum
import Derived.Lib.Split
import Derived.Lib.SplitLaws
import Derived.Lib.ConvBytes
import Derived.WideLaws
import Derived.SizedLaws
import Derived.Laws.BytesArg
import Derived.Test.YtkibefcceekmnaaGreatProg
import Derived.Sort.Walk0
import Derived.Test.YtkibefcceekmnaaGreatRows
import Derived.Test.YtkibefcceekmnaaGreatZEntry1
set_option linter.unusedVariables false
set_option linter.unusedSimpArgs false
set_option maxRecDepth 100000
set_option maxHeartbeats 4000000
set_option linter.defProp false
def C3 := @Go.Proofs.Tryz.underlying9
def D2 := @Go.Proofs.Tryz.underlying55
def Q0 := @Go.Proofs.Tryz.isAgg29
def I3 := @Go.Proofs.Tryz.underlying25
def f0 := @Go.Proofs.Tryz.sizeOf5
def C2 := @Go.Proofs.Tryz.underlying52
def G0 := @Go.Proofs.Tryz.isAgg54
def I1 := @Go.Proofs.Tryz.isAgg34
def W1 := @Go.Proofs.Tryz.isAgg36
def H1 := @Go.Proofs.Tryz.underlying22
def C7 := @Go.Proofs.Tryz.sizeOf116
def G9 := @Go.Proofs.Tryz.sizeOf27
def C5 := @Go.Proofs.Tryz.underlying24
def L1 := @Go.Proofs.Tryz.sizeOf100
def F5 := @Go.Proofs.Tryz.underlying36
def I2 := @Go.Proofs.Tryz.isAgg27
def B9 := @Go.Proofs.Tryz.sizeOf34
def G2 := @Go.Proofs.Tryz.sizeOf9
def P0 := @Go.Proofs.Tryz.sizeOf36
def G1 := @Go.Proofs.Tryz.sizeOf29
def L7 := @Go.Proofs.Tryz.underlying57
def F4 := @Go.Proofs.Tryz.isAgg57
def Z6 := @Go.Proofs.Tryz.sizeOf24
def F8 := @Go.Proofs.Tryz.sizeOf54
def c4 := @Go.Proofs.Tryz.isAgg9
def D9 := @Go.Proofs.Tryz.sizeOf57
def I8 := @Go.Proofs.Tryz.underlying116
def H3 := @Go.Proofs.Tryz.underlying5
def Q7 := @Go.Proofs.Tryz.underlying3
def O6 := @Go.Proofs.Tryz.underlying4
namespace Go.AV
section
variable {P : Program} {G : Nat → Prop} {n : Nat} {own : List Own}
theorem Az5 {t : List Own} {env : List (Nat × AV)} (k : Nat) (h : (own.drop k).Perm t) : Le G n ⟨own, env⟩ ⟨own.take k ++ t, env⟩ :=
  le_perm (by
    have := List.Perm.append_left (own.take k) h
    rw [List.take_append_drop] at this
    exact this)
theorem Ap7 {t : List Own} : t.Perm (t ++ []) := by rw [List.append_nil]
theorem perm_lin {t : List Own} : (t ++ []).Perm t := by rw [List.append_nil]
theorem Aa9 {sel rest : List Own} {is : List Nat} (h : pick own is = (sel, rest)) : own.Perm (sel ++ rest) := by
  induction is generalizing own sel rest with
  | nil => unfold pick at h; injection h with h1 h2; subst h1; subst h2; exact List.Perm.refl _
  | cons i is ih =>
    unfold pick at h
    cases hi : own[i]? with
    | none => rw [hi] at h; injection h with h1 h2; subst h1; subst h2; exact List.Perm.refl _
    | some x =>
      rw [hi] at h
      injection h with h1 h2; subst h1; subst h2
      exact (AJ7 hi).trans (List.Perm.cons x (ih rfl))
section
variable {o : Oper} {E : F7}
theorem opE_make {ops : Array Oper} {t e : TypeId} {p q : Operand} {sz by' m : Nat} {inf : TypeInfo} {z : Value} (ho : o.op = .makeSlice t p q)
    (ht : P.underlying t = some (.slice e)) (hinf : P.info? e = some inf) (hz : inf.zero = some z) (hsz : inf.size = sz) (hby : inf.bytes = by') (hzs : z.cells.size = sz) (hpos : Nat.ble 1 sz = true) (h1' : z.cells.toList.all Value.oneCell' = true) (hp : Ev E p (AV.int m)) (hq : Ev E q (AV.int m))
    (hlen : m * by' ≤ 281474976710656) (hlen2 : m ≤ 281474976710656) : OpE P G n own ops o E (fun _ : Value => True) (fun v' => own ++ [.arr v' e sz (List.replicate m (z.cells.toList.map zeroA))]) (fun v' => AV.is v') :=
  fun w0 R0 R a w h1 h3 h2 => by
    have e1 : a.eval p = .int .i64 m := g9 (ops := ops) hp qz9 h2
    have e2 : a.eval q = .int .i64 m := g9 (ops := ops) hq qz9 h2
    have hb1 := Nat.le_of_ble_eq_true hpos
    have hr := run_make (P := P) w t e inf z ht hinf hz .i64 .i64 (m : Int) (m : Int) qz5 qz5 (by rw [hby]; have h9 : ((m * by' : Nat) : Int) ≤ 281474976710656 := qz5; rw [Int.natCast_mul] at h9; rw [Int.mul_comm]; exact h9) qz5
    simp only [Int.toNat_natCast] at hr
    have hex : (execOp a.eval o).run P w = .ok (.value (.slice (some ⟨w.heap.size, 0, none⟩) m m)) (w.alloc (.cells (madeCells z.cells (m * inf.size)) e)) := by
      simp only [execOp, ho, e1, e2, hr, Sem.run_bind, Sem.run_pure, Result.andThen_ok]
    unfold Oper.wp
    rw [hex, Oper.upon_value]
    have hms : (madeCells z.cells (m * inf.size)).size = m * sz := by rw [size_madeCells, hsz]
    refine ⟨_, _, R, trivial, rfl, T6 (p7 h1 N9 (Nat.le_refl _) (by unfold maxLen; omega) hms (fun x hx => ?_) ⟨?_, fun j v x hv hx => ?_⟩) (List.perm_append_comm (l₁ := [_])), E9.refl _, rfl⟩
    · rw [(List.mem_replicate.1 hx).2]; simp [hzs]
    · rw [W0 (sz := sz) (fun x hx => by rw [(List.mem_replicate.1 hx).2]; simp [hzs])]
      simp [hms]
    · have hj : j < m * sz := by
        have := (List.getElem?_eq_some_iff.1 hx).1
        rw [W0 (sz := sz) (fun x hx => by rw [(List.mem_replicate.1 hx).2]; simp [hzs])] at this
        simpa using this
      have hjm : j % sz < sz := Nat.mod_lt _ qz5
      have hjj : j / sz * sz + j % sz = j := by rw [Nat.mul_comm]; exact Nat.div_add_mod j sz
      have hjd : j / sz < m := Nat.div_lt_of_lt_mul (by rw [Nat.mul_comm]; exact hj)
      have hzj : z.cells.toList[j % sz]? = some (z.cells.toList[j % sz]'(by simp [hzs]; exact hjm)) := List.getElem?_eq_getElem _
      have hx2 := Y7 (sz := sz) (es := List.replicate m (z.cells.toList.map zeroA)) (fun x hx => by rw [(List.mem_replicate.1 hx).2]; simp [hzs]) (i := j / sz) (e := z.cells.toList.map zeroA) (by rw [List.getElem?_replicate, if_pos hjd]) (k := j % sz) (x := zeroA (z.cells.toList[j % sz]'(by simp [hzs]; exact hjm))) (by rw [List.getElem?_map, hzj]; rfl)
      rw [hjj, hx] at hx2
      injection hx2 with hx2
      rw [List.getElem?_take_of_lt hj] at hv
      have hv2 : v = z.cells.toList[j % sz]'(by simp [hzs]; exact hjm) := by
        unfold madeCells at hv
        rw [hsz] at hv
        simp only [Array.toList_map, Array.toList_range, List.getElem?_map, List.getElem?_range hj, Option.map_some, Option.some.injEq] at hv
        rw [← hv, hzs, getElem!_pos z.cells _ (by rw [hzs]; exact hjm)]
        simp
      rw [hx2, hv2]
      exact ⟨n8 R _, List.all_eq_true.1 h1' _ N9⟩
end
section
variable {α : Type} {ok : α → Prop} {O : α → List Own} {V : α → AV} {o : Oper}
theorem BH8 {ops : Array Oper} {rs : List Oper} {env : List (Nat × AV)} {K : D8 → Prop} {d : Nat} {f : FuncId} {args : Array Operand} {tys : Array TypeId} {ps : List Operand} {xs : List AV} {sel rest : List Own} {own' : α → List Own} (hg : o.guard = none) (ho : o.op = .call { callee := .value (.func f), args := args, argTypes := tys }) (hd : o.dst = some d) (hn : Nat.blt d n = true)
    (hc : ∀ (vs : Array Value) (w : World), (callFunc f vs).run P w = .ok (.enter f vs) w) (hps : args.toList = ps) (hp : own.Perm (sel ++ rest)) (hs : D7 P f xs sel ok O V) (he : EvL (getv · env) ps xs) (hq : ∀ a, (O a ++ rest).Perm (own' a))
    (k : ∀ a, ok a → I6 P G n ops rs ⟨own' a, (d, V a) :: env⟩ K) : I6 P G n ops (o :: rs) ⟨own, env⟩ K :=
  S5 hg fun w0 R0 R a w ⟨h1, h2, h3, h4⟩ => by
    have hcore := T6 h1 hp
    have hden := AC1 (o := o) (fun t _ y hy => h2 t y hy) he fun p hp => by simp [ho, Op.operands, Call.operands]; right; rw [← hps] at hp; exact Array.mem_toList_iff.1 hp
    have hrun : (execOp a.eval o).run P w = .ok (.enter f (ps.map a.eval).toArray) w := by
      have hargs : args.map a.eval = (ps.map a.eval).toArray := by rw [← hps]; cases args; simp
      simp only [execOp, ho, resolve, hargs, show a.eval (.func f) = .func (.func f) #[] #[] from rfl]
      simp [Deferred.ofValue, invoke, hc]
    unfold Oper.wp
    rw [hrun, Oper.upon_enter]
    refine (hs R w _ hcore.rle hden (fun q hq => hcore.owned q (List.mem_append_left _ hq)) (N0 hcore).sep).mono fun e w' ⟨x, v, R', e0, e1, e2, e3⟩ => ?_
    subst e1
    have hR := j4 hcore.rle e3.rold
    refine ⟨⟨own' x, (d, V x) :: env⟩, R', k x e0, hR, T6 (AB1 hcore e3) (hq x), ?_, by rw [P5]; exact h3, by rw [M8]; exact h4⟩
    rw [hd]
    exact W8 h2 hR AA3 e2
theorem opE_mid {ops : Array Oper} {E : F7} {rest : List Own} (m : Nat) (h : OpE P G n own ops o E ok (fun a => rest ++ O a) V) : OpE P G n own ops o E ok (fun a => rest.take m ++ (O a ++ rest.drop m)) V := fun w0 R0 R a w h1 h2 h3 =>
  Oper.wp_mono2 (fun a' w' ⟨x, v, R', e0, e1, e2, e3, e4⟩ => ⟨x, v, R', e0, e1, T6 e2 (by
    show (rest ++ O x).Perm (rest.take m ++ (O x ++ rest.drop m))
    conv => lhs; rw [← List.take_append_drop m rest]
    rw [List.append_assoc]
    exact List.Perm.append_left _ List.perm_append_comm), e3, e4⟩) (fun _ _ _ h => h) (h w0 R0 R a w h1 h2 h3)
theorem j5 {ops : Array Oper} {E : F7} {W' : α → List Own} {g : α → Value} {e : TypeId} {sz : Nat} {es : List (List AV)} (i : Nat) (hg : ∀ a, (W' a)[i]? = some (.arr (g a) e sz es)) (h : OpE P G n own ops o E ok W' V) : OpE P G n own ops o E (fun a => ok a ∧ (g a).oneCell' = true) W' V := fun w0 R0 R a w h1 h2 h3 =>
  Oper.wp_mono2 (fun a' w' ⟨x, v, R', e0, e1, e2, e3, e4⟩ => ⟨x, v, R', ⟨e0, Az3 (e2.owned _ (C6 (hg x)))⟩, e1, e2, e3, e4⟩) (fun _ _ _ h => h) (h w0 R0 R a w h1 h2 h3)
theorem X5 {ops : Array Oper} {E : F7} {t : TypeId} {z : Value} (ho : o.op = .alloc t)
    (hz : ∀ w, (zeroValue t).run P w = .ok z w) (h1' : z.cells.toList.all Value.oneCell' = true) : OpE P G n own ops o E (fun _ : Nat => True) (fun b => own ++ [.box b t (z.cells.toList.map zeroA)]) (fun b => AV.ptr b 0) :=
  fun w0 R0 R a w h1 h3 h2 => by
    have hrun : (execOp a.eval o).run P w = .ok (.value (.pointer (some ⟨w.heap.size, 0, none⟩))) (w.alloc (.cells z.cells.toList.toArray t)) := by
      simp only [execOp, ho, Instr.alloc, newVar, newRow, hz, Array.toArray_toList, Sem.run_bind, Sem.run_pure, Result.andThen_ok, run_newObj, World.alloc_eq]
    unfold Oper.wp
    rw [hrun, Oper.upon_value]
    exact ⟨w.heap.size, _, R, trivial, rfl, T6 (AX4 h1 ⟨by simp, fun i v y hv hy => by
      rw [List.getElem?_map, hv] at hy
      simp at hy; subst hy
      exact ⟨n8 R v, List.all_eq_true.1 h1' v (C6 hv)⟩⟩) (List.perm_append_comm (l₁ := [_])), E9.refl _, rfl⟩
theorem O9 {ops : Array Oper} {E : F7} {t t' : TypeId} {p q : Operand} {b : Nat} {cs ys : List AV} {x : AV} (i : Nat) (ho : o.op = .store t p q) (hd : o.dst = none)
    (hp : Ev E p (AV.ptr b 0)) (hq : Ev E q x) (hx : P8 x ys) (hi : own[i]? = some (.box b t' cs)) (hs : ∀ w, (sizeOf t).run P w = .ok ys.length w) (hl' : Nat.beq ys.length cs.length = true) : OpE P G n own ops o E (fun _ : Unit => True) (fun _ => own.set i (.box b t' ys)) (fun _ => AV.int 0) :=
  fun w0 R0 R a w h1 h3 h2 => by
    have e1 : a.eval p = .pointer (some ⟨b, 0, none⟩) := g9 (ops := ops) hp qz9 h2
    have e2 := hx R _ (g9 (ops := ops) hq qz9 h2)
    have e := Nat.eq_of_beq_eq_true hl'
    obtain ⟨hR, vs, hb, hdc⟩ := h1.owned _ (C6 hi)
    have hsz : (a.eval q).cells.size = ys.length := by rw [← Array.length_toList]; exact e2.1
    have hst := l5 (P := P) (t := t) (off := 0) (u := a.eval q) hb (by rw [hsz]; exact hs w) (by rw [hsz, hdc.1]; omega) (fun u hu => by
      obtain ⟨j, hj⟩ := List.getElem?_of_mem hu
      have hjl : j < ys.length := by rw [← e2.1]; exact (List.getElem?_eq_some_iff.1 hj).1
      exact (e2.2 j u _ hj (List.getElem?_eq_getElem hjl)).2)
    have hrun : (execOp a.eval o).run P w = .ok .skip (w.setRow b (vs.take 0 ++ (a.eval q).cells.toList ++ vs.drop (0 + (a.eval q).cells.size)).toArray) := by
      simp only [execOp, ho, e1, hst, Sem.run_bind, Sem.run_pure, Result.andThen_ok]
    unfold Oper.wp
    rw [hrun, Oper.upon_skip, hd]
    refine ⟨(), .int .i64 0, R, trivial, rfl, r9 h1 hi rfl rfl ⟨hR, _, setRow_heap w b _ _ t' _ hb, ?_⟩ (f6 w b _), E9.refl _, rfl⟩
    rw [← Array.length_toList]
    have := l4 (off := 0) hdc e2 qz5
    rw [Aa5 e] at this
    exact this
theorem BH9 {ops : Array Oper} {rs : List Oper} {env : List (Nat × AV)} {K : D8 → Prop} {d : Nat} {f : FuncId} {args : Array Operand} {tys : Array TypeId} {ps : List Operand} {xs : List AV} {s1 r1 : List Own} (is : List Nat) (m j : Nat) (B D : List Own) (NT : α → List Own) (hg : o.guard = none) (ho : o.op = .call { callee := .value (.func f), args := args, argTypes := tys }) (hd : o.dst = some d) (hn : Nat.blt d n = true)
    (hc : ∀ (vs : Array Value) (w : World), (callFunc f vs).run P w = .ok (.enter f vs) w) (hps : args.toList = ps) (hp : pick own is = (s1, r1)) (hB : (r1.drop m).Perm (B ++ D)) (hs : D7 P f xs (s1 ++ B) ok O V) (he : EvL (getv · env) ps xs) (hN : ∀ a, ((O a).drop j ++ D).Perm (NT a))
    (k : ∀ a, ok a → I6 P G n ops rs ⟨(O a).take j ++ (r1.take m ++ NT a), (d, V a) :: env⟩ K) : I6 P G n ops (o :: rs) ⟨own, env⟩ K := by
  refine BH8 (sel := s1 ++ B) (rest := r1.take m ++ D) (own' := fun a => (O a).take j ++ (r1.take m ++ NT a)) hg ho hd hn hc hps ?_ hs he (fun a => ?_) k
  · refine (Aa9 hp).trans ?_
    have h1 : r1.Perm (r1.take m ++ (B ++ D)) := by
      have := List.Perm.append_left (r1.take m) hB
      rwa [List.take_append_drop] at this
    refine (List.Perm.append_left s1 h1).trans ?_
    rw [List.append_assoc]
    refine List.Perm.append_left s1 ?_
    rw [← List.append_assoc, ← List.append_assoc]
    exact List.Perm.append_right D List.perm_append_comm
  · have h1 : (O a ++ (r1.take m ++ D)).Perm ((O a).take j ++ (r1.take m ++ ((O a).drop j ++ D))) := by
      conv => lhs; rw [← List.take_append_drop j (O a)]
      rw [List.append_assoc]
      refine List.Perm.append_left _ ?_
      rw [← List.append_assoc, ← List.append_assoc]
      exact List.Perm.append_right D List.perm_append_comm
    exact h1.trans (List.Perm.append_left _ (List.Perm.append_left _ (hN a)))
theorem retGT {fn : Func} {s : D8} {sel rest : List Own} (is : List Nat) (m : Nat) (B D : List Own) (x : α) (hx : ok x) (hp : pick s.own is = (sel, rest)) (hB : (rest.drop m).Perm (B ++ D)) (ho : O x = sel ++ B) (h : ∀ w0 R0 R a w, St G n w0 R0 s R a w → ∃ v, (results fn a.tmps).run P w = .ok v w ∧ (V x).den R v) : G3 P G n fn s ok O V := fun w0 R0 R a w hs => by
  obtain ⟨v, h1, h2⟩ := h w0 R0 R a w hs
  refine ⟨x, v, R, hx, h1, h2, E9.refl _, ?_⟩
  rw [ho]
  refine N0 (b := rest.take m ++ D) (T6 hs.1 ?_)
  refine (Aa9 hp).trans ?_
  have h1 : rest.Perm (rest.take m ++ (B ++ D)) := by
    have := List.Perm.append_left (rest.take m) hB
    rwa [List.take_append_drop] at this
  refine (List.Perm.append_left sel h1).trans ?_
  rw [List.append_assoc]
  refine List.Perm.append_left sel ?_
  rw [← List.append_assoc, ← List.append_assoc]
  exact List.Perm.append_right D List.perm_append_comm
end
end
inductive OT where
  | nil
  | pure (i : Nat) (t : OT)
  | e1 (i : Nat) (t : OT)
  | e2 (i : Nat) (t : OT) (j : Nat) (u : OT)
def OT.deep : OT → Nat → Bool
  | .nil, 0 => true
  | .pure _ t, f + 1 => t.deep f
  | .e1 _ t, f + 1 => t.deep f
  | .e2 _ t _ u, f + 1 => t.deep f && u.deep f
  | _, _ => false
def r6 (md : Region.Mode) (ops : Array Oper) (g m : Nat) : OT → Array Bool → Bool
  | .nil, listed => Region.seqB md ops g m listed
  | .pure i r, listed => (Region.ready md ops listed).contains i && Region.free md ops listed i && Nat.blt i m && r6 md ops g m r (listed.setIfInBounds i true)
  | .e1 i r, listed => decide (Region.ready md ops listed = [i]) && Nat.blt i m && r6 md ops g m r (listed.setIfInBounds i true)
  | .e2 i r j u, listed => decide (Region.ready md ops listed = [i, j]) && Nat.blt i m && Nat.blt j m && r6 md ops g m r (listed.setIfInBounds i true) && r6 md ops g m u (listed.setIfInBounds j true)
def treeB (md : Region.Mode) (ops : Array Oper) (m : Nat) (ord : OT) : Bool :=
  decide (m < ops.size) && ord.deep m && Region.sinkB md ops m && Region.chainB md ops m && r6 md ops (ops.size - m) m ord (Array.replicate ops.size false)
section
variable {P : Program} {G : Nat → Prop} {n : Nat}
def m8 (P : Program) (G : Nat → Prop) (n : Nat) (Inv : List Own → Prop) (ops : Array Oper) (i : Nat) (env : List (Nat × AV)) (W : List Own) (K : List (Nat × AV) → List Own → Prop) : Prop :=
  ∃ o, ops[i]? = some o ∧ o.guard = none ∧ ∃ (α : Type) (ok : α → Prop) (W' : α → List Own) (V : α → AV), OpE P G n W ops o (getv · env) ok W' V ∧ (∀ a, ok a → Inv (W' a)) ∧ ∀ a, ok a → K (putv o.dst (V a) env) (W' a)
def BT (P : Program) (G : Nat → Prop) (n : Nat) (Inv : List Own → Prop) (ops : Array Oper) : OT → List (Nat × AV) → List Own → (List (Nat × AV) → List Own → Prop) → Prop
  | .nil, env, W, K => K env W
  | .pure i r, env, W, K => ∃ o, ops[i]? = some o ∧ ∃ x, (∀ W', Inv W' → OpA P G n W' ops o (getv · env) x) ∧ BT P G n Inv ops r (putv o.dst x env) W K
  | .e1 i r, env, W, K => m8 P G n Inv ops i env W fun env' W' => BT P G n Inv ops r env' W' K
  | .e2 i r j u, env, W, K => (m8 P G n Inv ops i env W fun env' W' => BT P G n Inv ops r env' W' K) ∧ m8 P G n Inv ops j env W fun env' W' => BT P G n Inv ops u env' W' K
theorem y7 {Inv : List Own → Prop} {md : Region.Mode} {ops : Array Oper} {m g : Nat} {K : List (Nat × AV) → List Own → Prop} (hs : Region.sinkB md ops m = true) (hc : Region.chainB md ops m = true) (hn : m < ops.size) :
    ∀ (l : OT) (f : Nat) (listed : Array Bool) (env : List (Nat × AV)) (W : List Own), l.deep f = true → HeadInv md ops m listed → Inv W →
    r6 md ops g m l listed = true → BT P G n Inv ops l env W K →
    wpAnyB P G n Inv md ops m (fun listed' E W => Region.seqB md ops g m listed' = true ∧ ∃ env', E = (getv · env') ∧ K env' W) f listed (getv · env) W
  | .nil, 0, listed, env, W, _, _, _, hB, h => ⟨hB, env, rfl, h⟩
  | .nil, _ + 1, _, _, _, hdp, _, _, _, _ => by cases hdp
  | .pure _ _, 0, _, _, _, hdp, _, _, _, _ => by cases hdp
  | .e1 _ _, 0, _, _, _, hdp, _, _, _, _ => by cases hdp
  | .e2 _ _ _ _, 0, _, _, _, hdp, _, _, _, _ => by cases hdp
  | .pure i l, f + 1, listed, env, W, hdp, inv, hW, hB, h => by
    simp only [r6, Bool.and_eq_true] at hB
    obtain ⟨⟨⟨hr, hf⟩, hlt⟩, hB'⟩ := hB
    have hkn : i < m := Nat.blt_eq.mp hlt
    have hr' : i ∈ Region.ready md ops listed := by simpa using hr
    obtain ⟨o, ho, x, hx, hK⟩ := h
    refine AO4 ho hs hc hn hkn (fun listed' E W hL => seqB_ready hL.1) f listed _ W inv hW (Region.free_spec ho hf) hr' hx ?_
    rw [← N6]
    exact y7 hs hc hn l f _ _ W hdp (inv.set hr' hkn) hW hB' hK
  | .e1 i l, f + 1, listed, env, W, hdp, inv, hW, hB, h => by
    simp only [r6, Bool.and_eq_true, decide_eq_true_eq] at hB
    obtain ⟨⟨hr, hlt⟩, hB'⟩ := hB
    have hkn : i < m := Nat.blt_eq.mp hlt
    have hr' : i ∈ Region.ready md ops listed := by rw [hr]; simp
    obtain ⟨o, ho, hg, α, ok, W', V, h1, h2, h3⟩ := h
    refine ⟨fun h0 => qz66, fun j hj => ?_⟩
    rw [hr] at hj
    have : j = i := by simpa using hj
    subst this
    refine ⟨hkn, ?_⟩
    unfold qB
    simp only [ho]
    refine .inr ⟨hg, α, ok, W', V, h1, h2, fun a ha => ?_⟩
    rw [← N6]
    exact y7 hs hc hn l f _ _ (W' a) hdp (inv.set hr' hkn) (h2 a ha) hB' (h3 a ha)
  | .e2 i l k u, f + 1, listed, env, W, hdp, inv, hW, hB, h => by
    simp only [r6, Bool.and_eq_true, decide_eq_true_eq] at hB
    obtain ⟨⟨⟨⟨hr, hlt⟩, hlt2⟩, hB'⟩, hB2⟩ := hB
    simp only [OT.deep, Bool.and_eq_true] at hdp
    have hkn : i < m := Nat.blt_eq.mp hlt
    have hkn2 : k < m := Nat.blt_eq.mp hlt2
    have hr' : i ∈ Region.ready md ops listed := by rw [hr]; simp
    have hr2 : k ∈ Region.ready md ops listed := by rw [hr]; simp
    obtain ⟨⟨o, ho, hg, α, ok, W', V, h1, h2, h3⟩, ⟨o', ho', hg', α', ok', W'', V', h1', h2', h3'⟩⟩ := h
    refine ⟨fun h0 => qz66, fun j hj => ?_⟩
    rw [hr] at hj
    simp only [List.mem_cons, List.not_mem_nil, or_false] at hj
    rcases hj with hj | hj
    · subst hj
      refine ⟨hkn, ?_⟩
      unfold qB
      simp only [ho]
      refine .inr ⟨hg, α, ok, W', V, h1, h2, fun a ha => ?_⟩
      rw [← N6]
      exact y7 hs hc hn l f _ _ (W' a) hdp.1 (inv.set hr' hkn) (h2 a ha) hB' (h3 a ha)
    · subst hj
      refine ⟨hkn2, ?_⟩
      unfold qB
      simp only [ho']
      refine .inr ⟨hg', α', ok', W'', V', h1', h2', fun a ha => ?_⟩
      rw [← N6]
      exact y7 hs hc hn u f _ _ (W'' a) hdp.2 (inv.set hr2 hkn2) (h2' a ha) hB2 (h3' a ha)
theorem X6 {id : Nat} {l : List Oper} {Q : Exit → D8 → Prop} {env : List (Nat × AV)} {own : List Own} (base : List Own) (m : Nat) (ord : OT) (hm : P.follows .mixedOrders = true) (hB : treeB .any l.toArray m ord = true) (hd : dstOk n l = true) (hb : k0 base own)
  (h : BT P G n (k0 base) l.toArray ord env own (fun env' W => I6 P G n l.toArray (l.drop m) ⟨W, env'⟩ (Q .normal))) : AWP P G n (.region id l.toArray true) Q ⟨own, env⟩ := fun w0 R0 R a w ⟨h1, h2, h3, h4⟩ => by
 simp only [treeB, Bool.and_eq_true, decide_eq_true_eq] at hB
 obtain ⟨⟨⟨⟨hn, hdp⟩, hs⟩, hc⟩, hlex⟩ := hB
 have hn' : m < l.length := by simpa using hn
 have hdl : (l.drop m).length = l.toArray.size - m := by simp
 have inv0 : HeadInv .any l.toArray m (Array.replicate l.toArray.size false) :=
  ⟨by simp, fun j oj _ hl => qz59, fun t _ ht => getD_in (by simpa using ht) (getD_replicate_false _ _)⟩
 have H := y7 (g := l.toArray.size - m) hs hc hn ord m _ env own hdp inv0 hb hlex h
 refine wp_region_any hm ?_
 have := b0 (w0 := w0) (R0 := R0) (R00 := R) (g := l.toArray.size - m) (Q' := fun e a' w' => ∃ s' R', Q e s' ∧ E9 R R' ∧ St G n w0 R0 s' R' a' w') (fun i o ho d e => p3 hd i o (by simpa using ho) d e) (fun listed E W R' a' w' g1 g2 g3 g4 g5 hL => by
  obtain ⟨hL1, env', rfl, hL2⟩ := hL
  have := wpAny_of_seq (P := P) (md := .any) (Q' := fun e a' w' => ∃ s' R', Q e s' ∧ E9 R R' ∧ St G n w0 R0 s' R' a' w') (l.drop m) m listed a' w' (fun j => by simp [List.getElem?_drop]) (by rw [hdl]; exact hL1)
   (U6 (R00 := R) (K := Q .normal) (fun s' R' a w q r1 r2 => ⟨s', R', q, r1, r2⟩) _ (⟨W, env'⟩ : D8) R' a' w' g1 ⟨g2, g3, g4, g5⟩ hL2)
  rwa [hdl] at this) _ _ _ own R a _ (E9.refl _) (m9 h1) h2 h3 h4 H
 rw [show m + (l.toArray.size - m) = l.toArray.size by omega] at this
 exact this
section
variable {ops : Array Oper} {i j : Nat} {o : Oper} {r u : OT} {env : List (Nat × AV)} {W : List Own} {base : List Own} {K : List (Nat × AV) → List Own → Prop} {d : Nat} {x : AV}
theorem bt_nil {Inv : List Own → Prop} (h : K env W) : BT P G n Inv ops .nil env W K := h
theorem L5 (ho : ops[i]? = some o) (hg : o.guard = none) (hd : o.dst = some d) (h : ∀ ext, OpW P G n (base ++ ext) o (getv · env) x) (k : BT P G n (k0 base) ops r ((d, x) :: env) W K) : BT P G n (k0 base) ops (.pure i r) env W K :=
  ⟨o, ho, x, fun W' ⟨ext, e⟩ => by subst e; exact y4 hg (h ext), by rw [hd]; exact k⟩
theorem bt_e1 {Inv : List Own → Prop} (h : m8 P G n Inv ops i env W fun env' W' => BT P G n Inv ops r env' W' K) : BT P G n Inv ops (.e1 i r) env W K := h
theorem u9 {Inv : List Own → Prop} (h : m8 P G n Inv ops i env W fun env' W' => BT P G n Inv ops r env' W' K) (k : m8 P G n Inv ops j env W fun env' W' => BT P G n Inv ops u env' W' K) : BT P G n Inv ops (.e2 i r j u) env W K := ⟨h, k⟩
theorem X7 {Inv : List Own → Prop} {α : Type} {ok : α → Prop} {W' : α → List Own} {V : α → AV} (ho : ops[i]? = some o) (hg : o.guard = none) (hd : o.dst = none) (h : OpE P G n W ops o (getv · env) ok W' V) (hi : ∀ a, ok a → Inv (W' a)) (k : ∀ a, ok a → K env (W' a)) : m8 P G n Inv ops i env W K :=
  ⟨o, ho, hg, α, ok, W', V, h, hi, fun a ha => by rw [hd]; exact k a ha⟩
theorem I7 {Inv : List Own → Prop} {α : Type} {ok : α → Prop} {W' : α → List Own} {V : α → AV} (ho : ops[i]? = some o) (hg : o.guard = none) (hd : o.dst = some d) (h : OpE P G n W ops o (getv · env) ok W' V) (hi : ∀ a, ok a → Inv (W' a)) (k : ∀ a, ok a → K ((d, V a) :: env) (W' a)) : m8 P G n Inv ops i env W K :=
  ⟨o, ho, hg, α, ok, W', V, h, hi, fun a ha => by rw [hd]; exact k a ha⟩
end
end
section
variable {T X : Type} {cs : T → List AV} {ocs : T → X → List AV} {ow : T → X → List Own}
def nrows (ocs : T → X → List AV) (l : List T) (xs : List X) : List (List AV) := List.zipWith ocs l xs
def nin (ow : T → X → List Own) (l : List T) (xs : List X) : List Own := (List.zipWith ow l xs).flatten
theorem BI0 {l : List T} {xs : List X} (h : xs.length = l.length) : (nrows ocs l xs).length = l.length := by unfold nrows; rw [List.length_zipWith]; omega
theorem BI1 {l : List T} {xs : List X} {i : Nat} {p : T} {x : X} (hp : l[i]? = some p) (hx : xs[i]? = some x) : (nrows ocs l xs)[i]? = some (ocs p x) := by
  unfold nrows; rw [List.getElem?_zipWith, hp, hx]
theorem BC6 {l : List T} {xs : List X} {p : T} {x : X} (h : xs.length = l.length) : nrows ocs (l ++ [p]) (xs ++ [x]) = nrows ocs l xs ++ [ocs p x] := by
  unfold nrows; rw [List.zipWith_append h.symm]; rfl
theorem nin_snoc {l : List T} {xs : List X} {p : T} {x : X} (h : xs.length = l.length) : (ow p x ++ nin ow l xs).Perm (nin ow (l ++ [p]) (xs ++ [x])) := by
  unfold nin; rw [List.zipWith_append h.symm, List.flatten_append]
  refine List.perm_append_comm.trans ?_
  simp
theorem AE8 {l : List T} {i : Nat} {p : T} (h : l[i]? = some p) : l.take (i + 1) = l.take i ++ [p] := by rw [List.take_add_one, h]; rfl
theorem nin_step {l : List T} {xs : List X} {p : T} {x : X} {i : Nat} (hp : l[i]? = some p) (h : xs.length = i) : (ow p x ++ nin ow (l.take i) xs).Perm (nin ow (l.take (i + 1)) (xs ++ [x])) := by
  have hi := (List.getElem?_eq_some_iff.1 hp).1
  rw [AE8 hp]
  exact nin_snoc (by rw [h, H2]; omega)
theorem BC7 {l : List T} {xs : List X} {p : T} {x : X} {i : Nat} (hp : l[i]? = some p) (h : xs.length = i) : nrows ocs (l.take i) xs ++ [ocs p x] = nrows ocs (l.take (i + 1)) (xs ++ [x]) := by
  have hi := (List.getElem?_eq_some_iff.1 hp).1
  rw [AE8 hp, BC6 (by rw [h, H2]; omega)]
theorem Af5 {p : T} {x : X} : ∀ {l : List T} {xs : List X} {i : Nat}, l[i]? = some p → xs[i]? = some x → (nin ow l xs).Perm (ow p x ++ nin ow (l.eraseIdx i) (xs.eraseIdx i))
  | [], _, _, h, _ => by simp at h
  | _ :: _, [], _, _, h => by simp at h
  | q :: l, y :: xs, 0, hp, hx => by simp at hp hx; subst hp; subst hx; exact List.Perm.refl _
  | q :: l, y :: xs, i + 1, hp, hx => by
    have ih := Af5 (l := l) (xs := xs) (i := i) (by simpa using hp) (by simpa using hx)
    unfold nin at *
    simp only [List.zipWith_cons_cons, List.flatten_cons, eraZs]
    refine (List.Perm.append_left (ow q y) ih).trans ?_
    rw [← List.append_assoc, ← List.append_assoc]
    exact List.Perm.append_right _ List.perm_append_comm
theorem AG3 {p : T} {x : X} : ∀ {l : List T} {xs : List X} {i : Nat}, l[i]? = some p → xs[i]? = some x → nrows ocs l xs = nrows ocs (l.take i) (xs.take i) ++ ocs p x :: nrows ocs (l.drop (i + 1)) (xs.drop (i + 1))
  | [], _, _, h, _ => by simp at h
  | _ :: _, [], _, _, h => by simp at h
  | q :: l, y :: xs, 0, hp, hx => by simp at hp hx; subst hp; subst hx; rfl
  | q :: l, y :: xs, i + 1, hp, hx => by
    have ih := AG3 (p := p) (x := x) (l := l) (xs := xs) (i := i) (by simpa using hp) (by simpa using hx)
    unfold nrows at *
    simp only [List.zipWith_cons_cons, AS4, An9, AZ9]
    rw [ih]
theorem j6 {p : T} {x : X} {l : List T} {xs : List X} {i : Nat} (hp : l[i]? = some p) (hx : xs[i]? = some x) : (nrows ocs (l.take i) (xs.take i)).length = i := by
  have h1 := (List.getElem?_eq_some_iff.1 hp).1
  have h2 := (List.getElem?_eq_some_iff.1 hx).1
  unfold nrows; rw [List.length_zipWith, H2, H2]; omega
theorem AK1 {p : T} {x : X} {l : List T} {xs : List X} {i : Nat} {r : List AV} (hp : l[i]? = some p) (hx : xs[i]? = some x) (hl : xs.length = l.length) : (nrows ocs (l.take i) (xs.take i) ++ r :: nrows ocs (l.drop (i + 1)) (xs.drop (i + 1))).length = l.length := by
  have h1 := (List.getElem?_eq_some_iff.1 hp).1
  rw [D5, j6 hp hx, E6]
  unfold nrows; rw [List.length_zipWith, List.length_drop, List.length_drop]; omega
theorem Az6 {p : T} {x : X} {l : List T} {xs : List X} {i : Nat} (hp : l[i]? = some p) (hx : xs[i]? = some x) : ∀ o ∈ ow p x, o ∈ nin ow l xs := fun o ho => (Af5 (ow := ow) (i := i) hp hx).mem_iff.2 (List.mem_append_left _ ho)
end
section
variable {T : Type}
variable {mk : T → Int → T} {mn : T → Int → Int}
end
section
variable {P : Program} {G : Nat → Prop} {n : Nat} {own : List Own} {o : Oper}
theorem AO5 {rest : List Own} : ∀ b, (fun _ : Nat => False) b → b ∈ rest.filterMap Own.blk := fun _ h => h.elim
theorem H8 {rest : List Own} : ∀ b, d5 [] b → b ∈ rest.filterMap Own.blk := fun _ ⟨_, h, _⟩ => by simp at h
theorem s6 {q q' : Own} {ow rest : List Own} (i : Nat) (h : rest[i]? = some q') (hb : Own.blk q = Own.blk q') (k : ∀ b, d5 ow b → b ∈ rest.filterMap Own.blk) : ∀ b, d5 (q :: ow) b → b ∈ rest.filterMap Own.blk := fun b ⟨x, hx, hxb⟩ => by
  rcases List.mem_cons.1 hx with rfl | hx
  · exact List.mem_filterMap.2 ⟨q', C6 h, hb ▸ hxb⟩
  · exact k b ⟨x, hx, hxb⟩
theorem AK2 {sel rest : List Own} {w0 : World} {R0 R : C9} {w : World} (h : H9 G w0 R0 (sel ++ rest) R w) (hG : ∀ b, G b → b ∈ rest.filterMap Own.blk) : H9 G w0 R0 rest (lend sel w R) w := by
  have hl := N0 h
  refine ⟨h.os, h.tape, h.output, h.size, h.block, AH6 hl, fun b hb => ?_, fun q hq => ?_, fun q hq => h.fresh q (List.mem_append_right _ hq), (AJ8 h).sep⟩
  · unfold lend
    cases hob : ownB sel b with
    | true =>
      obtain ⟨x, hx, hxb⟩ := f7 hob
      rcases h.fresh x (List.mem_append_left _ hx) b hxb with h1 | h1
      · omega
      · obtain ⟨y, hy, hyb⟩ := List.mem_filterMap.1 (hG b h1)
        exact absurd hyb (y5 h.sep hx hy hxb)
    | false => exact h.rold b hb
  · have hk := h.owned q (List.mem_append_right _ hq)
    refine Own.ok_keep hk (f8 hl) fun b hb => ⟨rfl, ?_⟩
    unfold lend
    cases hob : ownB sel b with
    | true =>
      obtain ⟨x, hx, hxb⟩ := f7 hob
      exact absurd hb (y5 h.sep hx hq hxb)
    | false => exact (Own.ok_blk hk hb).1
theorem AX8 {env : List (Nat × AV)} {sel rest : List Own} {x y : AV} (is : List Nat) (t : Nat) (hp : pick own is = (sel, rest)) (ht : getv t env = some x) (hl : Y4 sel x y) (hG : ∀ b, G b → b ∈ rest.filterMap Own.blk) : Le G n ⟨own, env⟩ ⟨rest, (t, y) :: env⟩ := fun w0 R0 R a w ⟨h1, h2, h3⟩ => by
  have hc := Z8 h1 hp
  refine ⟨lend sel w R, f8 (N0 hc), AK2 hc hG, fun k z hz => ?_, h3⟩
  simp only [getv] at hz
  by_cases hk : t = k
  · subst hk
    simp [Nat.beq_refl] at hz
    rw [← hz]
    exact hl G w0 R0 R w _ (N0 hc) (h2 t x ht)
  · rw [p1 hk, cond_false] at hz
    exact z.mono (f8 (N0 hc)) (h2 k z hz)
def bandI (x y : Int) : Int := IntKind.u64.wrap (((BitVec.ofInt IntKind.u64.bits x &&& BitVec.ofInt IntKind.u64.bits y).toNat : Nat) : Int)
theorem w_band {E : F7} {t ty : TypeId} {p q : Operand} {x y : Int} (ho : o.op = .binOp .and t p q ty) (hp : Ev E p (AV.ik .u64 x)) (hq : Ev E q (AV.ik .u64 y)) : OpW P G n own o E (AV.ik .u64 (bandI x y)) := H0 fun R a w _ he => by
  have h1 : a.eval p = .int .u64 x := D3 hp qz9 he
  have h2 : a.eval q = .int .u64 y := D3 hq qz9 he
  exact ⟨.int .u64 (bandI x y), by simp only [execOp, ho, h1, h2]; simp [go_sem]; rfl, rfl⟩
theorem Al7 {Inv : List Own → Prop} {md : Region.Mode} {ops : Array Oper} {m i : Nat} {oi : Oper} {x : AV} {L : Array Bool → F7 → List Own → Prop} (hi : ops[i]? = some oi)
    (hm0 : m = ops.size) (hin : i < m)
    (hdone : ∀ listed E W, L listed E W → ∀ j ∈ Region.ready md ops listed, m ≤ j) :
    ∀ (f : Nat) (listed : Array Bool) (E : F7) (W : List Own), HeadInv md ops m listed → Inv W →
      (∀ j oj, ops[j]? = some oj → j ≠ i → listed.getD j true = false → (∀ e ∈ oj.after, Region.binds md e = true → e.on ≠ i) → oi.apart ops oj = true) →
      i ∈ Region.ready md ops listed → (∀ W, Inv W → OpA P G n W ops oi E x) →
      wpAnyB P G n Inv md ops m L f (listed.setIfInBounds i true) (updF oi.dst x E) W → wpAnyB P G n Inv md ops m L (f + 1) listed E W := by
  have put : ∀ {K : F7 → List Own → Prop} {E : F7} {W : List Own}, Inv W → (∀ W, Inv W → OpA P G n W ops oi E x) → K (updF oi.dst x E) W → qB P G n Inv ops i K E W := fun hW hy hK => by
    unfold qB
    simp only [hi]
    exact .inl ⟨x, hy _ hW, hK⟩
  intro f
  induction f with
  | zero =>
    intro listed E W inv hW _ hr hy H
    have hun := (mem_ready.1 hr).1
    refine ⟨fun h => AM9, fun j hj => ?_⟩
    have hjn : j < m := by
      rcases Nat.lt_or_ge j m with h | h
      · exact h
      · obtain ⟨_, oj, hoj, _⟩ := mem_ready.1 hj
        have := (Array.getElem?_eq_some_iff.1 hoj).1
        omega
    refine ⟨hjn, ?_⟩
    by_cases hji : j = i
    · subst hji; exact put hW hy H
    · have := hdone _ _ _ H j (ready_mono hj hji)
      omega
  | succ f ih =>
    intro listed E W inv hW hfree hr hy H
    have hun := (mem_ready.1 hr).1
    refine ⟨fun h => AM9, fun j hj => ?_⟩
    have hjn : j < m := by
      rcases Nat.lt_or_ge j m with h | h
      · exact h
      · obtain ⟨_, oj, hoj, _⟩ := mem_ready.1 hj
        have := (Array.getElem?_eq_some_iff.1 hoj).1
        omega
    refine ⟨hjn, ?_⟩
    by_cases hji : j = i
    · subst hji; exact put hW hy H
    · have h1 := (H.2 j (ready_mono hj hji)).2
      obtain ⟨hjun, oj, hoj, hall⟩ := mem_ready.1 hj
      have hnot : ∀ e ∈ oj.after, Region.binds md e = true → e.on ≠ i := fun e he hb heq => by
        have h1 := hall e he hb
        rw [heq, getD_both hun] at h1
        cases h1
      have h2 := qB_put hoj (hfree j oj hoj hji hjun hnot) hW hy h1
      have hfree' : ∀ k ok, ops[k]? = some ok → k ≠ i → (listed.setIfInBounds j true).getD k true = false →
          (∀ e ∈ ok.after, Region.binds md e = true → e.on ≠ i) → oi.apart ops ok = true := fun k ok hk hki hun hno => by
        refine hfree k ok hk hki ?_ hno
        by_cases hjk : j = k
        · subst hjk; exact hjun
        · rw [getD_set_ne true hjk] at hun; exact hun
      refine Az4 hW (fun E' W' hW' h3 => ih (listed.setIfInBounds j true) E' W' (inv.set hj hjn) hW' hfree' (ready_mono hr (Ne.symm hji)) h3.1 ?_) h2
      rw [Array.setIfInBounds_comm _ _ hji]
      exact h3.2
def treeZ (md : Region.Mode) (ops : Array Oper) (m : Nat) (ord : OT) : Bool :=
  decide (m = ops.size) && ord.deep m && r6 md ops (ops.size - m) m ord (Array.replicate ops.size false)
theorem p8 {Inv : List Own → Prop} {md : Region.Mode} {ops : Array Oper} {m g : Nat} {K : List (Nat × AV) → List Own → Prop} (hm0 : m = ops.size) :
    ∀ (l : OT) (f : Nat) (listed : Array Bool) (env : List (Nat × AV)) (W : List Own), l.deep f = true → HeadInv md ops m listed → Inv W →
    r6 md ops g m l listed = true → BT P G n Inv ops l env W K →
    wpAnyB P G n Inv md ops m (fun listed' E W => Region.seqB md ops g m listed' = true ∧ ∃ env', E = (getv · env') ∧ K env' W) f listed (getv · env) W
  | .nil, 0, listed, env, W, _, _, _, hB, h => ⟨hB, env, rfl, h⟩
  | .nil, _ + 1, _, _, _, hdp, _, _, _, _ => by cases hdp
  | .pure _ _, 0, _, _, _, hdp, _, _, _, _ => by cases hdp
  | .e1 _ _, 0, _, _, _, hdp, _, _, _, _ => by cases hdp
  | .e2 _ _ _ _, 0, _, _, _, hdp, _, _, _, _ => by cases hdp
  | .pure i l, f + 1, listed, env, W, hdp, inv, hW, hB, h => by
    simp only [r6, Bool.and_eq_true] at hB
    obtain ⟨⟨⟨hr, hf⟩, hlt⟩, hB'⟩ := hB
    have hkn : i < m := Nat.blt_eq.mp hlt
    have hr' : i ∈ Region.ready md ops listed := by simpa using hr
    obtain ⟨o, ho, x, hx, hK⟩ := h
    refine Al7 ho hm0 hkn (fun listed' E W hL => seqB_ready hL.1) f listed _ W inv hW (Region.free_spec ho hf) hr' hx ?_
    rw [← N6]
    exact p8 hm0 l f _ _ W hdp (inv.set hr' hkn) hW hB' hK
  | .e1 i l, f + 1, listed, env, W, hdp, inv, hW, hB, h => by
    simp only [r6, Bool.and_eq_true, decide_eq_true_eq] at hB
    obtain ⟨⟨hr, hlt⟩, hB'⟩ := hB
    have hkn : i < m := Nat.blt_eq.mp hlt
    have hr' : i ∈ Region.ready md ops listed := by rw [hr]; simp
    obtain ⟨o, ho, hg, α, ok, W', V, h1, h2, h3⟩ := h
    refine ⟨fun h0 => qz66, fun j hj => ?_⟩
    rw [hr] at hj
    have : j = i := by simpa using hj
    subst this
    refine ⟨hkn, ?_⟩
    unfold qB
    simp only [ho]
    refine .inr ⟨hg, α, ok, W', V, h1, h2, fun a ha => ?_⟩
    rw [← N6]
    exact p8 hm0 l f _ _ (W' a) hdp (inv.set hr' hkn) (h2 a ha) hB' (h3 a ha)
  | .e2 i l k u, f + 1, listed, env, W, hdp, inv, hW, hB, h => by
    simp only [r6, Bool.and_eq_true, decide_eq_true_eq] at hB
    obtain ⟨⟨⟨⟨hr, hlt⟩, hlt2⟩, hB'⟩, hB2⟩ := hB
    simp only [OT.deep, Bool.and_eq_true] at hdp
    have hkn : i < m := Nat.blt_eq.mp hlt
    have hkn2 : k < m := Nat.blt_eq.mp hlt2
    have hr' : i ∈ Region.ready md ops listed := by rw [hr]; simp
    have hr2 : k ∈ Region.ready md ops listed := by rw [hr]; simp
    obtain ⟨⟨o, ho, hg, α, ok, W', V, h1, h2, h3⟩, ⟨o', ho', hg', α', ok', W'', V', h1', h2', h3'⟩⟩ := h
    refine ⟨fun h0 => qz66, fun j hj => ?_⟩
    rw [hr] at hj
    simp only [List.mem_cons, List.not_mem_nil, or_false] at hj
    rcases hj with hj | hj
    · subst hj
      refine ⟨hkn, ?_⟩
      unfold qB
      simp only [ho]
      refine .inr ⟨hg, α, ok, W', V, h1, h2, fun a ha => ?_⟩
      rw [← N6]
      exact p8 hm0 l f _ _ (W' a) hdp.1 (inv.set hr' hkn) (h2 a ha) hB' (h3 a ha)
    · subst hj
      refine ⟨hkn2, ?_⟩
      unfold qB
      simp only [ho']
      refine .inr ⟨hg', α', ok', W'', V', h1', h2', fun a ha => ?_⟩
      rw [← N6]
      exact p8 hm0 u f _ _ (W'' a) hdp.2 (inv.set hr2 hkn2) (h2' a ha) hB2 (h3' a ha)
theorem N7 {id : Nat} {l : List Oper} {Q : Exit → D8 → Prop} {env : List (Nat × AV)} {own : List Own} (base : List Own) (m : Nat) (ord : OT) (hm : P.follows .mixedOrders = true) (hB : treeZ .any l.toArray m ord = true) (hd : dstOk n l = true) (hb : k0 base own)
  (h : BT P G n (k0 base) l.toArray ord env own (fun env' W => I6 P G n l.toArray (l.drop m) ⟨W, env'⟩ (Q .normal))) : AWP P G n (.region id l.toArray true) Q ⟨own, env⟩ := fun w0 R0 R a w ⟨h1, h2, h3, h4⟩ => by
 simp only [treeZ, Bool.and_eq_true, decide_eq_true_eq] at hB
 obtain ⟨⟨hm0, hdp⟩, hlex⟩ := hB
 have hn' : m = l.length := by simpa using hm0
 have hdl : (l.drop m).length = l.toArray.size - m := by simp
 have inv0 : HeadInv .any l.toArray m (Array.replicate l.toArray.size false) :=
  ⟨by simp, fun j oj _ hl => qz59, fun t _ ht => getD_in (by simpa using ht) (getD_replicate_false _ _)⟩
 have H := p8 (g := l.toArray.size - m) hm0 ord m _ env own hdp inv0 hb hlex h
 refine wp_region_any hm ?_
 have := b0 (w0 := w0) (R0 := R0) (R00 := R) (g := l.toArray.size - m) (Q' := fun e a' w' => ∃ s' R', Q e s' ∧ E9 R R' ∧ St G n w0 R0 s' R' a' w') (fun i o ho d e => p3 hd i o (by simpa using ho) d e) (fun listed E W R' a' w' g1 g2 g3 g4 g5 hL => by
  obtain ⟨hL1, env', rfl, hL2⟩ := hL
  have := wpAny_of_seq (P := P) (md := .any) (Q' := fun e a' w' => ∃ s' R', Q e s' ∧ E9 R R' ∧ St G n w0 R0 s' R' a' w') (l.drop m) m listed a' w' (fun j => by simp [List.getElem?_drop]) (by rw [hdl]; exact hL1)
   (U6 (R00 := R) (K := Q .normal) (fun s' R' a w q r1 r2 => ⟨s', R', q, r1, r2⟩) _ (⟨W, env'⟩ : D8) R' a' w' g1 ⟨g2, g3, g4, g5⟩ hL2)
  rwa [hdl] at this) _ _ _ own R a _ (E9.refl _) (m9 h1) h2 h3 h4 H
 rw [show m + (l.toArray.size - m) = l.toArray.size by omega] at this
 exact this
theorem S6 {ops : Array Oper} {E : F7} {x : AV} (h : OpW P G n own o E x) : OpE P G n own ops o E (fun _ : Unit => True) (fun _ => own) (fun _ => x) :=
  fun w0 R0 R a w h1 h2 h3 => Oper.wp_mono2 (fun a' w' ⟨v, R', e1, e2, e3, e4⟩ => ⟨(), v, R', trivial, e1, e2, e3, e4⟩) (fun _ _ _ h => h) (h w0 R0 R a w h1 h2 fun t ht => h3 t (p2 ht))
end
end Go.AV
namespace Go.AV
open Go
inductive OT3 where
  | nil
  | pure (i : Nat) (t : OT3)
  | e1 (i : Nat) (t : OT3)
  | e2 (i : Nat) (t : OT3) (j : Nat) (u : OT3)
  | e3 (i : Nat) (t : OT3) (j : Nat) (u : OT3) (k : Nat) (v : OT3)
section
variable {P : Program} {G : Nat → Prop} {n : Nat}
def BT3 (P : Program) (G : Nat → Prop) (n : Nat) (Inv : List Own → Prop) (ops : Array Oper) : OT3 → List (Nat × AV) → List Own → (List (Nat × AV) → List Own → Prop) → Prop
  | .nil, env, W, K => K env W
  | .pure i r, env, W, K => ∃ o, ops[i]? = some o ∧ ∃ x, (∀ W', Inv W' → OpA P G n W' ops o (getv · env) x) ∧ BT3 P G n Inv ops r (putv o.dst x env) W K
  | .e1 i r, env, W, K => m8 P G n Inv ops i env W fun env' W' => BT3 P G n Inv ops r env' W' K
  | .e2 i r j u, env, W, K => (m8 P G n Inv ops i env W fun env' W' => BT3 P G n Inv ops r env' W' K) ∧ m8 P G n Inv ops j env W fun env' W' => BT3 P G n Inv ops u env' W' K
  | .e3 i r j u k v, env, W, K => (m8 P G n Inv ops i env W fun env' W' => BT3 P G n Inv ops r env' W' K) ∧ (m8 P G n Inv ops j env W fun env' W' => BT3 P G n Inv ops u env' W' K) ∧ m8 P G n Inv ops k env W fun env' W' => BT3 P G n Inv ops v env' W' K
section
variable {ops : Array Oper} {i j : Nat} {o : Oper} {r u : OT3} {env : List (Nat × AV)} {W : List Own} {base : List Own} {K : List (Nat × AV) → List Own → Prop} {d : Nat} {x : AV}
theorem bt3_nil {Inv : List Own → Prop} (h : K env W) : BT3 P G n Inv ops .nil env W K := h
theorem BI2 (ho : ops[i]? = some o) (hg : o.guard = none) (hd : o.dst = some d) (h : ∀ ext, OpW P G n (base ++ ext) o (getv · env) x) (k : BT3 P G n (k0 base) ops r ((d, x) :: env) W K) : BT3 P G n (k0 base) ops (.pure i r) env W K :=
  ⟨o, ho, x, fun W' ⟨ext, e⟩ => by subst e; exact y4 hg (h ext), by rw [hd]; exact k⟩
theorem bt3_e1 {Inv : List Own → Prop} (h : m8 P G n Inv ops i env W fun env' W' => BT3 P G n Inv ops r env' W' K) : BT3 P G n Inv ops (.e1 i r) env W K := h
end
end
section
variable {P : Program} {G : Nat → Prop} {n : Nat}
end
section
variable {P : Program} {G : Nat → Prop} {n : Nat} {own : List Own} {o : Oper}
end
end Go.AV
namespace Go.AV
section
variable {P : Program} {G : Nat → Prop} {n : Nat} {own : List Own} {o : Oper} {E : F7}
end
end Go.AV
namespace Go.AV
open Go.RowKit (Below)
section
variable {P : Program} {G : Nat → Prop} {n : Nat} {own : List Own} {o : Oper} {E : F7}
end
end Go.AV
namespace Go.AV
theorem W9 {α β : Type} {f : α → β} {l : List α} {i : Nat} {x : α} (h : l[i]? = some x) : (l.map f)[i]? = some (f x) := by rw [List.getElem?_map, h]; rfl
theorem I9 {α : Type} {l : List α} {i : Nat} {x y : α} (h : l[i]? = some y) : (l.set i x)[i]? = some x := List.getElem?_set_self (List.getElem?_eq_some_iff.1 h).1
section
variable {P : Program} {G : Nat → Prop} {n : Nat} {own : List Own} {o : Oper} {E : F7}
end
section
variable {P : Program} {G : Nat → Prop} {n : Nat} {own : List Own} {o : Oper}
def AS1 (sel : List Own) : Own → Own → Prop
  | .box b t cs, .box b' t' cs' => b = b' ∧ t = t' ∧ U3 sel cs cs'
  | .arr v t sz es, .arr v' t' sz' es' => v = v' ∧ t = t' ∧ sz = sz' ∧ Ae3 sel es es'
  | .frz b t cs, .frz b' t' cs' => b = b' ∧ t = t' ∧ U3 sel cs cs'
  | .tab T, .tab T' => T = T'
  | _, _ => False
def AF8 (sel own own' : List Own) : Prop := own.length = own'.length ∧ ∀ (i : Nat) (q q' : Own), own[i]? = some q → own'[i]? = some q' → AS1 sel q q'
theorem Ab0 {sel : List Own} : AF8 sel [] [] := ⟨rfl, fun i q q' h => by simp at h⟩
theorem AT2 {sel a b : List Own} {q q' : Own} (h : AS1 sel q q') (k : AF8 sel a b) : AF8 sel (q :: a) (q' :: b) := ⟨by simp [k.1], fun i x y hx hy => by
  cases i with
  | zero => simp at hx hy; subst hx; subst hy; exact h
  | succ i => exact k.2 i x y (by simpa using hx) (by simpa using hy)⟩
theorem oc_blk {sel : List Own} {q q' : Own} (h : AS1 sel q q') : Own.blk q = Own.blk q' := by
  cases q <;> cases q' <;> unfold AS1 at h
  · exact congrArg some h.1
  · exact h.elim
  · exact h.elim
  · exact h.elim
  · exact h.elim
  · exact congrArg Value.ownBlock h.1
  · exact h.elim
  · exact h.elim
  · exact h.elim
  · exact h.elim
  · exact congrArg some h.1
  · exact h.elim
  · exact h.elim
  · exact h.elim
  · exact h.elim
  · rfl
theorem oc_map {sel a b : List Own} (h : AF8 sel a b) : a.map Own.blk = b.map Own.blk := by
  refine List.ext_getElem? fun i => ?_
  rw [List.getElem?_map, List.getElem?_map]
  cases ha : a[i]? with
  | none =>
    have : b[i]? = none := by rw [List.getElem?_eq_none_iff] at ha ⊢; rw [← h.1]; exact ha
    rw [this]
  | some q =>
    have hi : i < b.length := by rw [← h.1]; exact (List.getElem?_eq_some_iff.1 ha).1
    rw [List.getElem?_eq_getElem hi]
    exact congrArg some (oc_blk (h.2 i q _ ha (List.getElem?_eq_getElem hi)))
theorem oc_fm {sel a b : List Own} (h : AF8 sel a b) : a.filterMap Own.blk = b.filterMap Own.blk := by
  have := congrArg (List.filterMap id) (oc_map h)
  rwa [List.filterMap_map, List.filterMap_map] at this
theorem AO6 {sel : List Own} {xs ys : List AV} {w0 : World} {R0 R : C9} {w : World} {vs : List Value} (hc : H9 G w0 R0 sel R w) (h : M4 R vs xs) (k : U3 sel xs ys) : M4 (lend sel w R) vs ys :=
  ⟨h.1.trans k.1, fun i v y hv hy => by
    have hi : i < xs.length := by rw [k.1]; exact (List.getElem?_eq_some_iff.1 hy).1
    have hx := List.getElem?_eq_getElem hi
    obtain ⟨h1, h2⟩ := h.2 i v _ hv hx
    exact ⟨k.2 i _ y hx hy G w0 R0 R w v hc h1, h2⟩⟩
theorem Ab1 {sel rest rest' : List Own} {w0 : World} {R0 R : C9} {w : World} (h : H9 G w0 R0 (sel ++ rest) R w) (hG : ∀ b, G b → b ∈ rest.filterMap Own.blk) (hl : AF8 sel rest rest') : H9 G w0 R0 rest' (lend sel w R) w := by
  have hb := AK2 h hG
  have hs := N0 h
  refine ⟨hb.os, hb.tape, hb.output, hb.size, hb.block, hb.rle, hb.rold, fun q' hq' => ?_, fun q' hq' b hqb => ?_, ?_⟩
  · obtain ⟨i, hi⟩ := List.getElem?_of_mem hq'
    have hir : i < rest.length := by rw [hl.1]; exact (List.getElem?_eq_some_iff.1 hi).1
    have hr := List.getElem?_eq_getElem hir
    have hm := C6 hr
    have hoc := hl.2 i _ q' hr hi
    have k1 := hb.owned _ hm
    have k2 := h.owned _ (List.mem_append_right _ hm)
    revert hoc k1 k2
    generalize rest[i] = q
    intro hoc k1 k2
    cases q <;> cases q' <;> unfold AS1 at hoc
    · obtain ⟨rfl, rfl, hc⟩ := hoc
      obtain ⟨_, vs, hv, hd⟩ := k2
      exact ⟨k1.1, vs, hv, AO6 hs hd hc⟩
    · exact hoc.elim
    · exact hoc.elim
    · exact hoc.elim
    · exact hoc.elim
    · obtain ⟨rfl, rfl, rfl, hc⟩ := hoc
      obtain ⟨_, hlen, xs, hx, hd⟩ := k2
      refine ⟨k1.1, fun e he => ?_, xs, ?_, AO6 hs hd (Af4 hc)⟩
      · obtain ⟨j, hj⟩ := List.getElem?_of_mem he
        have hje := List.getElem?_eq_getElem (show j < _ from hc.1.symm ▸ (List.getElem?_eq_some_iff.1 hj).1)
        rw [← (hc.2 j _ e hje hj).1]
        exact hlen _ (C6 hje)
      · rw [← hc.1]; exact hx
    · exact hoc.elim
    · exact hoc.elim
    · exact hoc.elim
    · exact hoc.elim
    · obtain ⟨rfl, rfl, hc⟩ := hoc
      obtain ⟨_, vs, hv, hd⟩ := k2
      exact ⟨k1.1, vs, hv, AO6 hs hd hc⟩
    · exact hoc.elim
    · exact hoc.elim
    · exact hoc.elim
    · exact hoc.elim
    · exact hoc ▸ k1
  · have hm : (some b) ∈ rest'.map Own.blk := List.mem_map.2 ⟨q', hq', hqb⟩
    rw [← oc_map hl] at hm
    obtain ⟨q, hq, hqb2⟩ := List.mem_map.1 hm
    exact hb.fresh q hq b hqb2
  · rw [← oc_fm hl]; exact hb.sep
theorem v1 {α β : Type} {f : FuncId} {xs : List AV} {inw : List Own} {ok : α → Prop} {O : α → List Own} {V : α → AV} {ok' : β → Prop} {O' : β → List Own} {V' : β → AV} (g : α → β) (S rest : α → List Own) (hs : D7 P f xs inw ok O V)
    (hok : ∀ a, ok a → ok' (g a)) (hV : ∀ a, ok a → Y4 (S a) (V a) (V' (g a))) (hp : ∀ a, ok a → (O a).Perm (S a ++ rest a)) (hG : ∀ a, ok a → ∀ b, d5 inw b → b ∈ (rest a).filterMap Own.blk) (hl : ∀ a, ok a → AF8 (S a) (rest a) (O' (g a))) : D7 P f xs inw ok' O' V' := fun R w vs hr hd ho hn =>
  (hs R w vs hr hd ho hn).mono fun e w' ⟨a, v, R', h0, h1, h2, h3⟩ => by
    have hc := T6 h3 (hp a h0)
    exact ⟨g a, v, lend (S a) w' R', hok a h0, h1, hV a h0 _ _ _ R' w' v (N0 hc) h2, Ab1 hc (hG a h0) (hl a h0)⟩
theorem oc_refl {sel : List Own} (q : Own) : AS1 sel q q := by
  cases q with
  | box b t cs => exact ⟨rfl, rfl, d9⟩
  | arr v t sz es => exact ⟨rfl, rfl, rfl, E3⟩
  | frz b t cs => exact ⟨rfl, rfl, d9⟩
  | tab T => exact rfl
theorem oc_set {sel l : List Own} {i : Nat} {q q' : Own} (hi : l[i]? = some q) (hc : AS1 sel q q') : AF8 sel l (l.set i q') := ⟨by simp, fun j x y hx hy => by
  by_cases h : i = j
  · subst h
    rw [List.getElem?_set_self (List.getElem?_eq_some_iff.1 hi).1] at hy
    rw [hi] at hx
    injection hx with hx; injection hy with hy; subst hx; subst hy; exact hc
  · rw [List.getElem?_set_ne h, hx] at hy
    injection hy with hy; subst hy; exact oc_refl _⟩
theorem M9 {env : List (Nat × AV)} {sel rest : List Own} {q : Own} (is : List Nat) (i : Nat) (q' : Own) (hp : pick own is = (sel, rest)) (hi : rest[i]? = some q) (hc : AS1 sel q q') (hG : ∀ b, G b → b ∈ rest.filterMap Own.blk) : Le G n ⟨own, env⟩ ⟨rest.set i q', env⟩ := fun w0 R0 R a w ⟨h1, h2, h3⟩ => by
  have hk := Z8 h1 hp
  exact ⟨lend sel w R, f8 (N0 hk), Ab1 hk hG (oc_set hi hc), fun t z hz => z.mono (f8 (N0 hk)) (h2 t z hz), h3⟩
section
variable {T X : Type} {ocs : T → X → List AV} {cs : T → List AV} {ow : T → X → List Own}
end
end
section
variable {P : Program} {G : Nat → Prop} {n : Nat} {own : List Own} {o : Oper}
theorem AK3 {ops : Array Oper} {E : F7} {p q : Operand} {v : Value} {e : TypeId} {sz : Nat} {es : List (List AV)} {k : Nat} {ys : List AV} {x : AV} (i : Nat) (ho : o.op = .store e p q) (hd : o.dst = none)
    (hp : Ev E p (AV.is (elemPtr v (k * sz)))) (hq : Ev E q x) (hx : P8 x ys) (hi : own[i]? = some (.arr v e sz es)) (hs : ∀ w, (sizeOf e).run P w = .ok sz w) (hys : ys.length = sz) (hl : k < es.length) :
    OpE P G n own ops o E (fun _ : Unit => True) (fun _ => own.set i (.arr v e sz (es.set k ys))) (fun _ => AV.int 0) :=
  fun w0 R0 R a w h1 h3 h2 => by
    have e1 : a.eval p = _ := g9 (ops := ops) hp qz9 h2
    have e2 := hx R _ (g9 (ops := ops) hq qz9 h2)
    obtain ⟨hR, hu, xs, hown, hdc⟩ := h1.owned _ (C6 hi)
    have hsz : (a.eval q).cells.size = ys.length := by rw [← Array.length_toList]; exact e2.1
    rcases hown.2 with ⟨rfl, hz⟩ | ⟨g, cap, cur, rfl, hbase, hg', hn, hm, hcs, htake⟩
    · rw [hz] at hl; simp at hl
    · have hfl : xs.length = es.length * sz := hown.1
      have hk1 : k * sz + sz ≤ es.length * sz := by
        have := Nat.mul_le_mul_right sz (show k + 1 ≤ es.length by omega)
        rwa [Nat.add_mul, Nat.one_mul] at this
      have hk2 : es.length * sz ≤ cap * sz := Nat.mul_le_mul_right sz hn
      have e3 : elemPtr (.slice (some ⟨g, 0, none⟩) es.length cap) (k * sz) = .pointer (some ⟨g, k * sz, none⟩) := by
        show Value.pointer (some (Addr.add ⟨g, 0, none⟩ (k * sz))) = _
        unfold Addr.add; split <;> simp_all
      have hcur : w.heap[g]? = some (.cells cur.toList.toArray e (0, 0)) := by simpa using hg'
      have hst := l5 (P := P) (t := e) (off := k * sz) (u := a.eval q) hcur (by rw [hsz, hys]; exact hs w) (by rw [hsz, hys, Array.length_toList, hcs]; omega) (fun u hu => by
        obtain ⟨j, hj⟩ := List.getElem?_of_mem hu
        have hjl : j < ys.length := by rw [← e2.1]; exact (List.getElem?_eq_some_iff.1 hj).1
        exact (e2.2 j u _ hj (List.getElem?_eq_getElem hjl)).2)
      have hrun : (execOp a.eval o).run P w = .ok .skip (w.setRow g (cur.toList.take (k * sz) ++ (a.eval q).cells.toList ++ cur.toList.drop (k * sz + (a.eval q).cells.size)).toArray) := by
        simp only [execOp, ho, e1, e3, hst, Sem.run_bind, Sem.run_pure, Result.andThen_ok]
      unfold Oper.wp
      rw [hrun, Oper.upon_skip, hd]
      refine ⟨(), .int .i64 0, R, trivial, rfl, r9 h1 hi rfl rfl ⟨hR, fun z hz => ?_, xs.take (k * sz) ++ (a.eval q).cells.toList ++ xs.drop (k * sz + (a.eval q).cells.toList.length), ⟨?_, .inr ⟨g, cap, _, by rw [List.length_set], hbase, setRow_heap w g _ _ e _ hg', by rw [List.length_set]; exact hn, hm, ?_, ?_⟩⟩, ?_⟩ (f6 w g _), E9.refl _, rfl⟩
      · rcases List.mem_or_eq_of_mem_set hz with h | h
        · exact hu z h
        · rw [h]; exact hys
      · rw [List.length_set]; simp; omega
      · simp; omega
      · rw [List.length_set, ← htake]
        have l1 : (a.eval q).cells.toList.length = sz := by rw [e2.1, hys]
        have l2 : (a.eval q).cells.size = sz := by rw [hsz, hys]
        have l3 : cur.toList.length = cap * sz := by rw [Array.length_toList, hcs]
        rw [← Array.length_toList]
        exact AV0 qz5 (by rw [l1]; omega)
      · have hfe : (es.set k ys).flatten = splice es.flatten (k * sz) ys := AV1 hu hys hl
        rw [hfe]
        refine l4 hdc e2 ?_
        rw [W0 hu, hys]; exact hk1
end
end Go.AV
namespace Go.AV
open Go.RowKit (Below)
section
variable {P : Program} {G : Nat → Prop} {n : Nat} {own : List Own} {o : Oper} {E : F7}
def Ah5 (own : List Own) (E : F7) (q : Operand) (sz : Nat) (fs : List (List AV)) : Prop :=
  ∀ (G : Nat → Prop) (w0 : World) (R0 R : C9) (a : Act) (w : World), H9 G w0 R0 own R w → (∀ t, q = .tmp t → ∀ y, E t = some y → y.den R (a.tmps.getD t undef)) →
    (∀ f ∈ fs, f.length = sz) ∧ ∃ oa cap vs, a.eval q = .slice oa fs.length cap ∧ (fs ≠ [] → ∃ ad, oa = some ad ∧ (∀ j u, vs[j]? = some u → w.cell? (ad.add j) = some u) ∧ M4 R vs fs.flatten)
theorem lt_tailm {α : Type} {f : α → List AV} {l : List α} {v : Value} {e : TypeId} {sz lo k : Nat} (hm : Own.arr v e sz (l.map f) ∈ own) (hlo : lo = k) (hk : k ≤ l.length) : Y4 own (AV.is (tailV lo sz v)) (AV.list sz ((l.drop k).map f)) := fun G w0 R0 R w u hc hu => by
  subst hlo
  cases (show u = tailV lo sz v from hu)
  obtain ⟨_, _, xs, hown, _⟩ := hc.owned _ hm
  obtain ⟨oa, c, hv, hnc⟩ := AJ2 hown
  have h1 := G5 hm E3 G w0 R0 R w v hc rfl
  obtain ⟨oa', c', e1, k1, k2, k3, k4⟩ := h1
  subst e1
  have h9 := BC2 (R := lend own w R) (lo := lo) (hi := (l.map f).length) (es := l.map f) (oa := oa') rfl k1 k2 k3 k4 (by rw [A5]; exact hk) (Nat.le_refl _)
  rw [List.take_length, ← List.map_drop] at h9
  exact h9
end
end Go.AV
namespace Go.AV
section
variable {P : Program} {G : Nat → Prop} {n : Nat} {own : List Own} {env : List (Nat × AV)} {fn : Func}
theorem AO7 {sel : List Own} {cs : List AV} {sz : Nat} (j : Nat) (h : cs[j]? = some AV.nils) : U3 sel cs (cs.set j (AV.list sz [])) := ⟨by rw [List.length_set], fun i x y hx hy => by
  by_cases e : j = i
  · subst e
    rw [List.getElem?_set_self (List.getElem?_eq_some_iff.1 h).1] at hy
    rw [h] at hx
    injection hx with hx; injection hy with hy; subst hx; subst hy
    exact lt_nils
  · rw [List.getElem?_set_ne e, hx] at hy
    injection hy with hy; subst hy; exact C8⟩
theorem BI3 {o : Oper} {ops : Array Oper} {E : F7} {α : Type} {ok : α → Prop} {W' : α → List Own} {V : α → AV} {sel rest : α → List Own} {Y : α → AV} (is : List Nat) (hp : ∀ a, pick (W' a) is = (sel a, rest a)) (hl : ∀ a, Y4 (sel a) (V a) (Y a)) (hG : ∀ a b, G b → b ∈ (rest a).filterMap Own.blk)
    (h : OpE P G n own ops o E ok W' V) : OpE P G n own ops o E ok rest Y := fun w0 R0 R a w h1 h2 h3 =>
  Oper.wp_mono2 (fun a' w' ⟨x, v, R', e0, e1, e2, e3, e4⟩ =>
    have hk := Z8 e2 (hp x)
    ⟨x, v, lend (sel x) w' R', e0, e1, AK2 hk (hG x), e3.trans (f8 (N0 hk)), hl x G w0 R0 R' w' v (N0 hk) e4⟩) (fun _ _ _ h => h) (h w0 R0 R a w h1 h2 h3)
theorem Ab2 (i j sz : Nat) {b : Nat} {t : TypeId} {cs : List AV} (hi : own[i]? = some (.box b t cs)) (hj : cs[j]? = some AV.nils) (hG : ∀ b, G b → b ∈ own.filterMap Own.blk) : Le G n ⟨own, env⟩ ⟨own.set i (.box b t (cs.set j (AV.list sz []))), env⟩ :=
  M9 [] i (.box b t (cs.set j (AV.list sz []))) rfl hi ⟨rfl, rfl, AO7 j hj⟩ hG
theorem K4 {α : Type} {ok : α → Prop} {O : α → List Own} {V : α → AV} (i j sz : Nat) {b : Nat} {t : TypeId} {cs : List AV} (hi : own[i]? = some (.box b t cs)) (hj : cs[j]? = some AV.nils) (hG : ∀ b, G b → b ∈ own.filterMap Own.blk)
    (k : G3 P G n fn ⟨own.set i (.box b t (cs.set j (AV.list sz []))), env⟩ ok O V) : G3 P G n fn ⟨own, env⟩ ok O V := fun w0 R0 R a w hs => by
  have hle : Le G n ⟨own, env⟩ ⟨own.set i (.box b t (cs.set j (AV.list sz []))), env⟩ := M9 [] i (.box b t (cs.set j (AV.list sz []))) rfl hi ⟨rfl, rfl, AO7 j hj⟩ hG
  obtain ⟨R1, h1, h2⟩ := hle w0 R0 R a w hs
  obtain ⟨x, v, R2, g0, g1, g2, g3, g4⟩ := k w0 R0 R1 a w h2
  exact ⟨x, v, R2, g0, g1, g2, h1.trans g3, g4⟩
theorem T2 {y : AV} (i j sz : Nat) {b : Nat} {t : TypeId} {cs : List AV} (hi : own[i]? = some (.box b t cs)) (hj : cs[j]? = some AV.nils)
    (k : RetOk P (fun _ => False) n fn ⟨own.set i (.box b t (cs.set j (AV.list sz []))), env⟩ y) : RetOk P (fun _ => False) n fn ⟨own, env⟩ y := fun w0 R0 R a w hs => by
  have hle : Le (fun _ => False) n ⟨own, env⟩ ⟨own.set i (.box b t (cs.set j (AV.list sz []))), env⟩ := M9 [] i (.box b t (cs.set j (AV.list sz []))) rfl hi ⟨rfl, rfl, AO7 j hj⟩ AO5
  obtain ⟨R1, h1, h2⟩ := hle w0 R0 R a w hs
  obtain ⟨v, R2, h3, h4, h5, h6⟩ := k w0 R0 R1 a w h2
  exact ⟨v, R2, h3, h4, h1.trans h5, h6⟩
end
section
variable {P : Program} {G : Nat → Prop} {n : Nat} {own : List Own} {o : Oper} {E : F7}
@[reducible] def byteC (b : UInt8) : List AV := [AV.ik .u8 b.toNat]
theorem Ab3 : ∀ (bs : List UInt8), (bs.map byteC).flatten = bs.map fun b => AV.ik .u8 b.toNat
  | [] => rfl
  | b :: bs => by rw [List.map_cons, List.flatten_cons, Ab3 bs]; rfl
theorem BC8 {w : World} {oa : Option Addr} {c : Nat} {bs : List UInt8} {src dst e : TypeId} (hs : P.underlying src = some (.slice e)) (he : P.underlying e = some (.int .u8)) (hdst : P.underlying dst = some .string)
    (h : bs ≠ [] → ∃ a, oa = some a ∧ ∀ (j : Nat) (b : UInt8), bs[j]? = some b → w.cell? (a.add j) = some (.int .u8 b.toNat)) :
    (convert src dst (.slice oa bs.length c)).run P w = .ok (.string ⟨bs.toArray⟩) w := by
  cases oa with
  | none =>
    have hb : bs = [] := by
      cases bs with
      | nil => rfl
      | cons b t => obtain ⟨a, ha, _⟩ := h N9; cases ha
    subst hb
    exact Go.run_convert_bytes_nil (w := w) (P := P) src e hs he _ _ dst hdst
  | some a =>
    have hl : (loadCells a bs.length).run P w = .ok ((bs.map fun b => (b.toNat : Int)).map (Value.int .u8)).toArray w := by
      have := run_loadCells_list (P := P) (w := w) a ((bs.map fun b => (b.toNat : Int)).map (Value.int .u8)) (fun j v hj => by
        rw [List.getElem?_map, List.getElem?_map] at hj
        cases hb : bs[j]? with
        | none => rw [hb] at hj; cases hj
        | some b =>
          rw [hb] at hj
          injection hj with hj; subst hj
          obtain ⟨a', ha, hc⟩ := h (by intro hn; rw [hn] at hb; simp at hb)
          injection ha with ha; subst ha
          exact hc j b hb)
      simpa using this
    rw [Go.run_convert_bytes_string w src dst e _ _ c hs he hdst, Go.run_bytesToString w a bs.length c _ hl, Go.foldl_push_bytes]
    refine congrArg (fun b => Result.ok (Value.string b) w) ?_
    refine ByteArray.ext ?_
    apply Array.toList_inj.1
    simp [ByteArray.empty, ByteArray.emptyWithCapacity]
    show [] ++ bs.map (fun b => UInt8.ofNat (Int.toNat (b.toNat : Int))) = bs
    rw [List.nil_append]
    conv => rhs; rw [← List.map_id bs]
    refine List.map_congr_left fun b _ => ?_
    rw [Int.toNat_natCast]
    simp
theorem Aj3 {R : C9} {w : World} {v : Value} {bs : List UInt8} {src dst e : TypeId} (hr : RLe R w) (hd : (AV.list 1 (bs.map byteC)).den R v) (hs : P.underlying src = some (.slice e)) (he : P.underlying e = some (.int .u8)) (hdst : P.underlying dst = some .string) :
    (convert src dst v).run P w = .ok (.string ⟨bs.toArray⟩) w := by
  obtain ⟨oa, c, rfl, h1, h2, _, h4⟩ := hd
  rw [A5]
  refine BC8 hs he hdst fun hn => ?_
  obtain ⟨a, ha, hc⟩ := h4 (by intro hm; exact hn (List.map_eq_nil_iff.1 hm))
  refine ⟨a, ha, fun j b hb => ?_⟩
  rw [Ab3] at hc
  obtain ⟨u, hu, hx, _⟩ := hc j (AV.ik .u8 b.toNat) (by rw [List.getElem?_map, hb]; rfl)
  rw [o9 hr hu]
  exact congrArg some hx
theorem Af6 {src dst e : TypeId} {p : Operand} {bs : List UInt8} (ho : o.op = .convert src dst p) (hs : P.underlying src = some (.slice e)) (he : P.underlying e = some (.int .u8)) (hd : P.underlying dst = some .string) (hp : Ev E p (AV.list 1 (bs.map byteC))) : OpW P G n own o E (AV.str bs) := H0 fun R a w hr hv => by
  have h1 := D3 hp qz9 hv
  exact ⟨.string ⟨bs.toArray⟩, by simp [execOp, ho, Aj3 hr h1 hs he hd], rfl⟩
theorem Ap8 {src dst e t : TypeId} {p : Operand} {v : Value} {bs : List UInt8} (i : Nat) (hi : own[i]? = some (.arr v t 1 (bs.map byteC))) (ho : o.op = .convert src dst p) (hs : P.underlying src = some (.slice e)) (he : P.underlying e = some (.int .u8)) (hd : P.underlying dst = some .string) (hp : Ev E p (AV.is v)) : OpW P G n own o E (AV.str bs) := S4 fun w0 R0 R a w hc hv => by
  have h1 : a.eval p = v := D3 hp qz9 hv
  have h2 := Aj3 (P := P) (AH6 hc) (AX6 hc i hi) hs he hd
  exact ⟨.string ⟨bs.toArray⟩, by simp [execOp, ho, h1, h2], rfl⟩
end
end Go.AV
namespace Go.AV
open Go.Proofs
class UnC (t : Nat) (x : outParam (Option TypeDesc)) : Prop where
  h : Tryz.prog.underlying t = x
class SzC (t : Nat) (x : outParam Nat) : Prop where
  h : ∀ w, (sizeOf t).run Tryz.prog w = .ok x w
class AgC (t : Nat) (x : outParam Bool) : Prop where
  h : ∀ w, (isAgg t).run Tryz.prog w = .ok x w
class ZvC (t : Nat) (x : outParam Value) : Prop where
  h : ∀ w, (zeroValue t).run Tryz.prog w = .ok x w
class TyC (t : Nat) (x : outParam TypeInfo) : Prop where
  h : Tryz.prog.types[t]? = some x
class CaC (f : Nat) : Prop where
  h : ∀ (a : Array Value) (w : World), (callFunc f a).run Tryz.prog w = .ok (.enter f a) w
class PlC (t : Nat) (x : outParam (Array (Nat × Nat))) : Prop where
  h : ∃ fs, Tryz.prog.underlying t = some (.struct fs) ∧ ∀ w, (fs.mapM (m := Sem) fun f => do pure (f.offset, ← sizeOf f.type)).run Tryz.prog w = .ok x w
theorem plL {t : Nat} {x : Array (Nat × Nat)} [u : PlC t x] : ∃ fs, Tryz.prog.underlying t = some (.struct fs) ∧ ∀ w, (fs.mapM (m := Sem) fun f => do pure (f.offset, ← sizeOf f.type)).run Tryz.prog w = .ok x w := u.h
theorem unL {t : Nat} {x : Option TypeDesc} [u : UnC t x] : Tryz.prog.underlying t = x := u.h
theorem szL {t x : Nat} [u : SzC t x] : ∀ w, (sizeOf t).run Tryz.prog w = .ok x w := u.h
theorem agL {t : Nat} {x : Bool} [u : AgC t x] : ∀ w, (isAgg t).run Tryz.prog w = .ok x w := u.h
theorem zvL {t : Nat} {x : Value} [u : ZvC t x] : ∀ w, (zeroValue t).run Tryz.prog w = .ok x w := u.h
instance iU9 : UnC 9 (some Tryz.t9.desc) := ⟨C3⟩
instance iA5 : AgC 5 false := ⟨Tryz.isAgg5⟩
instance iS55 : SzC 55 1 := ⟨Tryz.sizeOf55⟩
instance iU54 : UnC 54 (some Tryz.t53.desc) := ⟨Tryz.underlying54⟩
instance iU55 : UnC 55 (some Tryz.t55.desc) := ⟨D2⟩
instance iZ29 : ZvC 29 (Value.agg #[Value.int IntKind.i64 0, Value.int IntKind.i64 0, Value.int IntKind.i64 0, Value.int IntKind.i64 0, Value.int IntKind.i64 0, Value.slice none 0 0, Value.slice none 0 0, Value.bool false]) := ⟨Tryz.zeroValue29⟩
instance iA24 : AgC 24 false := ⟨Tryz.isAgg24⟩
instance iU29 : UnC 29 (some Tryz.t28.desc) := ⟨Tryz.underlying29⟩
instance iS22 : SzC 22 1 := ⟨Tryz.sizeOf22⟩
instance iZ34 : ZvC 34 (Value.agg #[Value.string (ByteArray.mk #[]), Value.string (ByteArray.mk #[])]) := ⟨Tryz.zeroValue34⟩
instance iA29 : AgC 29 true := ⟨Q0⟩
instance iZ57 : ZvC 57 (Value.agg #[Value.slice none 0 0, Value.int IntKind.i64 0, Value.int IntKind.i64 0, Value.slice none 0 0]) := ⟨Tryz.zeroValue57⟩
instance iZ47 : ZvC 47 (Value.agg #[Value.slice none 0 0, Value.int IntKind.i64 0, Value.int IntKind.u64 0]) := ⟨Tryz.zeroValue47⟩
instance iZ5 : ZvC 5 (Value.int IntKind.u8 0) := ⟨Tryz.zeroValue5⟩
instance iZ3 : ZvC 3 (Value.int IntKind.i64 0) := ⟨Tryz.zeroValue3⟩
instance iU25 : UnC 25 (some Tryz.t25.desc) := ⟨I3⟩
instance iS25 : SzC 25 1 := ⟨Tryz.sizeOf25⟩
instance iS5 : SzC 5 1 := ⟨f0⟩
instance iU52 : UnC 52 (some Tryz.t52.desc) := ⟨C2⟩
instance iZ87 : ZvC 87 (Value.agg #[Value.int IntKind.i64 0, Value.int IntKind.i64 0, Value.int IntKind.i64 0, Value.int IntKind.i64 0, Value.int IntKind.i64 0, Value.int IntKind.i64 0, Value.slice none 0 0, Value.slice none 0 0, Value.bool false]) := ⟨Tryz.zeroValue87⟩
instance iA54 : AgC 54 true := ⟨G0⟩
instance iA34 : AgC 34 true := ⟨I1⟩
instance iA36 : AgC 36 false := ⟨W1⟩
instance iS87 : SzC 87 9 := ⟨Tryz.sizeOf87⟩
instance iZ9 : ZvC 9 (Value.string (ByteArray.mk #[])) := ⟨Tryz.zeroValue9⟩
instance iU22 : UnC 22 (some Tryz.t22.desc) := ⟨H1⟩
instance iA22 : AgC 22 false := ⟨Tryz.isAgg22⟩
instance iS116 : SzC 116 3 := ⟨C7⟩
instance iS120 : SzC 120 11 := ⟨Tryz.sizeOf120⟩
instance iS27 : SzC 27 7 := ⟨G9⟩
instance iA87 : AgC 87 true := ⟨Tryz.isAgg87⟩
instance iU24 : UnC 24 (some Tryz.t24.desc) := ⟨C5⟩
instance iA45 : AgC 45 false := ⟨Tryz.isAgg45⟩
instance iS3 : SzC 3 1 := ⟨Tryz.sizeOf3⟩
instance iS100 : SzC 100 3 := ⟨L1⟩
instance iU36 : UnC 36 (some Tryz.t36.desc) := ⟨F5⟩
instance iS52 : SzC 52 1 := ⟨Tryz.sizeOf52⟩
instance iS4 : SzC 4 1 := ⟨Tryz.sizeOf4⟩
instance iZ130 : ZvC 130 (Value.agg #[Value.string (ByteArray.mk #[]), Value.int IntKind.i64 0, Value.bool false]) := ⟨Tryz.zeroValue130⟩
instance iA27 : AgC 27 true := ⟨I2⟩
instance iU100 : UnC 100 (some Tryz.t99.desc) := ⟨Tryz.underlying100⟩
instance iU87 : UnC 87 (some Tryz.t86.desc) := ⟨Tryz.underlying87⟩
instance iU69 : UnC 69 (some Tryz.t68.desc) := ⟨Tryz.underlying69⟩
instance iS34 : SzC 34 2 := ⟨B9⟩
instance iS9 : SzC 9 1 := ⟨G2⟩
instance iA55 : AgC 55 false := ⟨Tryz.isAgg55⟩
instance iU34 : UnC 34 (some Tryz.t33.desc) := ⟨Tryz.underlying34⟩
instance iA120 : AgC 120 true := ⟨Tryz.isAgg120⟩
instance iZ54 : ZvC 54 (Value.agg #[Value.slice none 0 0, Value.int IntKind.i64 0, Value.int IntKind.i64 0]) := ⟨Tryz.zeroValue54⟩
instance iU47 : UnC 47 (some Tryz.t46.desc) := ⟨Tryz.underlying47⟩
instance iA4 : AgC 4 false := ⟨Tryz.isAgg4⟩
instance iS36 : SzC 36 1 := ⟨P0⟩
instance iA52 : AgC 52 false := ⟨Tryz.isAgg52⟩
instance iS29 : SzC 29 8 := ⟨G1⟩
instance iZ100 : ZvC 100 (Value.agg #[Value.string (ByteArray.mk #[]), Value.string (ByteArray.mk #[]), Value.bool false]) := ⟨Tryz.zeroValue100⟩
instance iU57 : UnC 57 (some Tryz.t56.desc) := ⟨L7⟩
instance iA57 : AgC 57 true := ⟨F4⟩
instance iZ116 : ZvC 116 (Value.agg #[Value.bool false, Value.slice none 0 0, Value.int IntKind.i64 0]) := ⟨Tryz.zeroValue116⟩
instance iS24 : SzC 24 1 := ⟨Z6⟩
instance iZ120 : ZvC 120 (Value.agg #[Value.int IntKind.i64 0, Value.int IntKind.i64 0, Value.int IntKind.i64 0, Value.int IntKind.i64 0, Value.int IntKind.i64 0, Value.int IntKind.i64 0, Value.slice none 0 0, Value.slice none 0 0, Value.bool false, Value.int IntKind.i64 0, Value.bool false]) := ⟨Tryz.zeroValue120⟩
instance iS54 : SzC 54 3 := ⟨F8⟩
instance iU27 : UnC 27 (some Tryz.t26.desc) := ⟨Tryz.underlying27⟩
instance iU89 : UnC 89 (some Tryz.t89.desc) := ⟨Tryz.underlying89⟩
instance iU76 : UnC 76 (some Tryz.t76.desc) := ⟨Tryz.underlying76⟩
instance iA9 : AgC 9 false := ⟨c4⟩
instance iZ69 : ZvC 69 (Value.agg #[Value.string (ByteArray.mk #[]), Value.int IntKind.i64 0, Value.bool false]) := ⟨Tryz.zeroValue69⟩
instance iU130 : UnC 130 (some Tryz.t129.desc) := ⟨Tryz.underlying130⟩
instance iA25 : AgC 25 false := ⟨Tryz.isAgg25⟩
instance iS57 : SzC 57 4 := ⟨D9⟩
instance iS45 : SzC 45 1 := ⟨Tryz.sizeOf45⟩
instance iA116 : AgC 116 true := ⟨Tryz.isAgg116⟩
instance iA100 : AgC 100 true := ⟨Tryz.isAgg100⟩
instance iU116 : UnC 116 (some Tryz.t115.desc) := ⟨I8⟩
instance iZ27 : ZvC 27 (Value.agg #[Value.int IntKind.i64 0, Value.int IntKind.i64 0, Value.int IntKind.i64 0, Value.int IntKind.i64 0, Value.slice none 0 0, Value.slice none 0 0, Value.bool false]) := ⟨Tryz.zeroValue27⟩
instance iA3 : AgC 3 false := ⟨Tryz.isAgg3⟩
instance iU120 : UnC 120 (some Tryz.t119.desc) := ⟨Tryz.underlying120⟩
instance iP27 : PlC 27 #[(0, 1), (1, 1), (2, 1), (3, 1), (4, 1), (5, 1), (6, 1)] := ⟨_, Tryz.underlying27, fun w => by kernel_rfl⟩
instance iP29 : PlC 29 #[(0, 1), (1, 7)] := ⟨_, Tryz.underlying29, fun w => by kernel_rfl⟩
instance iP34 : PlC 34 #[(0, 1), (1, 1)] := ⟨_, Tryz.underlying34, fun w => by kernel_rfl⟩
instance iP47 : PlC 47 #[(0, 1), (1, 1), (2, 1)] := ⟨_, Tryz.underlying47, fun w => by kernel_rfl⟩
instance iP54 : PlC 54 #[(0, 1), (1, 1), (2, 1)] := ⟨_, Tryz.underlying54, fun w => by kernel_rfl⟩
instance iP57 : PlC 57 #[(0, 3), (3, 1)] := ⟨_, L7, fun w => by kernel_rfl⟩
instance iP69 : PlC 69 #[(0, 1), (1, 1), (2, 1)] := ⟨_, Tryz.underlying69, fun w => by kernel_rfl⟩
instance iP87 : PlC 87 #[(0, 1), (1, 1), (2, 7)] := ⟨_, Tryz.underlying87, fun w => by kernel_rfl⟩
instance iP100 : PlC 100 #[(0, 1), (1, 1), (2, 1)] := ⟨_, Tryz.underlying100, fun w => by kernel_rfl⟩
instance iP116 : PlC 116 #[(0, 1), (1, 1), (2, 1)] := ⟨_, I8, fun w => by kernel_rfl⟩
instance iP120 : PlC 120 #[(0, 1), (1, 1), (2, 7), (9, 1), (10, 1)] := ⟨_, Tryz.underlying120, fun w => by kernel_rfl⟩
instance iP130 : PlC 130 #[(0, 1), (1, 1), (2, 1)] := ⟨_, Tryz.underlying130, fun w => by kernel_rfl⟩
theorem omA {p : Prop} (h : p := by first | omega | ((try simp only [lenZs, P3, szR] at *); omega) | (have hc2 := hc; simp only [bolZs, beq_iff_eq, bne_iff_ne, A5, H2] at hc2; omega)) : p := h
theorem fsl {fs : Array Field} {k : Nat} {fd : Field} (h : fs.toList[k]? = some fd) : fs[k]? = some fd := by rw [← h]; simp
section
variable {P : Program} {G : Nat → Prop} {n : Nat}
theorem w_fldB2 {own : List Own} {o : Oper} {E : F7} {t : TypeId} {p : Operand} {b off : Nat} {fs : Array Field} {fd : Field} {k j : Nat} (m : Nat) (ho : o.op = .fieldAddr t p k) (ht : P.underlying t = some (.struct fs)) (hk : fs.toList[k]? = some fd) (hs : ∀ w, (sizeOf fd.type).run P w = .ok (j + 1) w)
    (hp : Ev E p (AV.ptr b off)) (hm : off + fd.offset = m) : OpW P G n own o E (AV.ptr b m) := w_fldBn m ho ht (fsl hk) hs hp hm
theorem w_fldE2 {own : List Own} {o : Oper} {E : F7} {t : TypeId} {p : Operand} {fs : Array Field} {fd : Field} {k m : Nat} {xs ys : List AV} (ho : o.op = .fieldAddr t p k) (ht : P.underlying t = some (.struct fs)) (hk : fs.toList[k]? = some fd) (hs : ∀ w, (sizeOf fd.type).run P w = .ok (m + 1) w)
    (hp : Ev E p (AV.eptr xs)) (hy : xs.drop fd.offset = ys) : OpW P G n own o E (AV.eptr ys) := w_fldE ho ht (fsl hk) hs hp hy
theorem w_build2 {own : List Own} {o : Oper} {E : F7} {t : TypeId} {z : Value} {ps : Array (Nat × Operand)} {asl : List (Nat × List AV)} {places : Array (Nat × Nat)} {cs : List AV} (ho : o.op = .build t ps) (hz : ∀ w, (zeroValue t).run P w = .ok z w)
    (hpl : ∃ fs, P.underlying t = some (.struct fs) ∧ ∀ w, (fs.mapM (m := Sem) fun f => do pure (f.offset, ← sizeOf f.type)).run P w = .ok places w) (h1' : z.cells.toList.all Value.oneCell' = true) (hp : EvP E ps.toList asl) (hc : afill (places[·]?) (z.cells.toList.map zeroA) asl = some cs) :
    OpW P G n own o E (AV.agg cs) := by
  obtain ⟨fs, h1, h2⟩ := hpl
  exact U1 ho h1 hz h2 h1' hp hc
theorem gSq {B : Prop} {ops : Array Oper} {l : List Oper} {s : D8} {K : D8 → Prop} (h : B → I6 P G n ops l s K) : B → I6 P G n ops l s K := h
theorem gCh {B : Prop} {own : List Own} {ops : Array Oper} {l : List Oper} {e : List (Nat × AV)} {K : List (Nat × AV) → Prop} (h : B → d4 P G n own ops l e K) : B → d4 P G n own ops l e K := h
theorem gBc {B : Prop} {I : List Own → Prop} {ops : Array Oper} {l : List (Nat × Bool)} {e : List (Nat × AV)} {W : List Own} {K : List (Nat × AV) → List Own → Prop} (h : B → BCh P G n I ops l e W K) : B → BCh P G n I ops l e W K := h
theorem gBt {B : Prop} {I : List Own → Prop} {ops : Array Oper} {l : OT} {e : List (Nat × AV)} {W : List Own} {K : List (Nat × AV) → List Own → Prop} (h : B → BT P G n I ops l e W K) : B → BT P G n I ops l e W K := h
theorem gB3 {B : Prop} {I : List Own → Prop} {ops : Array Oper} {l : OT3} {e : List (Nat × AV)} {W : List Own} {K : List (Nat × AV) → List Own → Prop} (h : B → BT3 P G n I ops l e W K) : B → BT3 P G n I ops l e W K := h
end
theorem ix0 {α : Type} {l : List α} {x : α} (h : l[0]? = some x) : l[0]? = some x := h
theorem ix1 {α : Type} {l : List α} {x : α} (h : l[1]? = some x) : l[1]? = some x := h
theorem ix2 {α : Type} {l : List α} {x : α} (h : l[2]? = some x) : l[2]? = some x := h
theorem ix3 {α : Type} {l : List α} {x : α} (h : l[3]? = some x) : l[3]? = some x := h
theorem ix4 {α : Type} {l : List α} {x : α} (h : l[4]? = some x) : l[4]? = some x := h
theorem ix5 {α : Type} {l : List α} {x : α} (h : l[5]? = some x) : l[5]? = some x := h
theorem ix6 {α : Type} {l : List α} {x : α} (h : l[6]? = some x) : l[6]? = some x := h
theorem ix7 {α : Type} {l : List α} {x : α} (h : l[7]? = some x) : l[7]? = some x := h
theorem ix8 {α : Type} {l : List α} {x : α} (h : l[8]? = some x) : l[8]? = some x := h
theorem ix9 {α : Type} {l : List α} {x : α} (h : l[9]? = some x) : l[9]? = some x := h
theorem ix10 {α : Type} {l : List α} {x : α} (h : l[10]? = some x) : l[10]? = some x := h
theorem ix11 {α : Type} {l : List α} {x : α} (h : l[11]? = some x) : l[11]? = some x := h
theorem ix12 {α : Type} {l : List α} {x : α} (h : l[12]? = some x) : l[12]? = some x := h
theorem ix13 {α : Type} {l : List α} {x : α} (h : l[13]? = some x) : l[13]? = some x := h
theorem ix14 {α : Type} {l : List α} {x : α} (h : l[14]? = some x) : l[14]? = some x := h
theorem ix15 {α : Type} {l : List α} {x : α} (h : l[15]? = some x) : l[15]? = some x := h
theorem ixA {p : Prop} (h : p := by 
  first
  | (apply ix0; apply Eq.refl)
  | (apply ix1; apply Eq.refl)
  | (apply ix2; apply Eq.refl)
  | (apply ix3; apply Eq.refl)
  | (apply ix4; apply Eq.refl)
  | (apply ix5; apply Eq.refl)
  | (apply ix6; apply Eq.refl)
  | (apply ix7; apply Eq.refl)
  | (apply ix8; apply Eq.refl)
  | (apply ix9; apply Eq.refl)
  | (apply ix10; apply Eq.refl)
  | (apply ix11; apply Eq.refl)
  | (apply ix12; apply Eq.refl)
  | (apply ix13; apply Eq.refl)
  | (apply ix14; apply Eq.refl)
  | (apply ix15; apply Eq.refl)) : p := h
theorem evA {p : Prop} (h : p := by 
  first
  | (apply B0; apply Eq.refl; exact hc)
  | (apply B0; apply Eq.refl; exact (and_l hc))
  | (apply A0; apply Eq.refl)
  | apply D6
  | apply AJ0) : p := h
theorem eiA {p : Prop} (h : p := by 
  first
  | (apply evif_w; apply Eq.refl)
  | (apply evif_w2; apply Eq.refl; exact hc)
  | (apply evif; exact evA)) : p := h
theorem asA {p : Prop} (h : p := by 
  first
  | apply J3
  | apply Q3
  | apply AH5
  | apply K6
  | apply Ay8) : p := h
theorem bpA {p : Prop} (h : p := by (repeat (apply E1; exact evA; exact asA)); apply O8) : p := h
theorem gdA {p : Prop} (h : p := by 
  first
  | (apply d7; apply Eq.refl; apply Eq.refl; apply Eq.refl)
  | (apply O7; apply Eq.refl; apply Eq.refl; apply Eq.refl)
  | (apply S3; apply Eq.refl; apply Eq.refl; apply Eq.refl)
  | (apply Ao7; apply Eq.refl; apply Eq.refl; apply Eq.refl)) : p := h
theorem nm0 {x : Nat} (h : x = 0) : x = 0 := h
theorem nm1 {x : Nat} (h : x = 1) : x = 1 := h
theorem nm2 {x : Nat} (h : x = 2) : x = 2 := h
theorem nm3 {x : Nat} (h : x = 3) : x = 3 := h
theorem nm4 {x : Nat} (h : x = 4) : x = 4 := h
theorem nm5 {x : Nat} (h : x = 5) : x = 5 := h
theorem nm6 {x : Nat} (h : x = 6) : x = 6 := h
theorem nm7 {x : Nat} (h : x = 7) : x = 7 := h
theorem nm8 {x : Nat} (h : x = 8) : x = 8 := h
theorem nm9 {x : Nat} (h : x = 9) : x = 9 := h
theorem nm10 {x : Nat} (h : x = 10) : x = 10 := h
theorem nm11 {x : Nat} (h : x = 11) : x = 11 := h
theorem nm12 {x : Nat} (h : x = 12) : x = 12 := h
theorem nm13 {x : Nat} (h : x = 13) : x = 13 := h
theorem nm14 {x : Nat} (h : x = 14) : x = 14 := h
theorem nm15 {x : Nat} (h : x = 15) : x = 15 := h
theorem nm16 {x : Nat} (h : x = 16) : x = 16 := h
theorem nm17 {x : Nat} (h : x = 17) : x = 17 := h
theorem nm18 {x : Nat} (h : x = 18) : x = 18 := h
theorem nm19 {x : Nat} (h : x = 19) : x = 19 := h
theorem nm20 {x : Nat} (h : x = 20) : x = 20 := h
theorem nm21 {x : Nat} (h : x = 21) : x = 21 := h
theorem nm22 {x : Nat} (h : x = 22) : x = 22 := h
theorem nm23 {x : Nat} (h : x = 23) : x = 23 := h
theorem nm24 {x : Nat} (h : x = 24) : x = 24 := h
theorem nm25 {x : Nat} (h : x = 25) : x = 25 := h
theorem nm26 {x : Nat} (h : x = 26) : x = 26 := h
theorem nm27 {x : Nat} (h : x = 27) : x = 27 := h
theorem nm28 {x : Nat} (h : x = 28) : x = 28 := h
theorem nm29 {x : Nat} (h : x = 29) : x = 29 := h
theorem nm30 {x : Nat} (h : x = 30) : x = 30 := h
theorem nm31 {x : Nat} (h : x = 31) : x = 31 := h
theorem nm32 {x : Nat} (h : x = 32) : x = 32 := h
theorem nmA {p : Prop} (h : p := by 
  first
  | (apply nm0; apply Eq.refl)
  | (apply nm1; apply Eq.refl)
  | (apply nm2; apply Eq.refl)
  | (apply nm3; apply Eq.refl)
  | (apply nm4; apply Eq.refl)
  | (apply nm5; apply Eq.refl)
  | (apply nm6; apply Eq.refl)
  | (apply nm7; apply Eq.refl)
  | (apply nm8; apply Eq.refl)
  | (apply nm9; apply Eq.refl)
  | (apply nm10; apply Eq.refl)
  | (apply nm11; apply Eq.refl)
  | (apply nm12; apply Eq.refl)
  | (apply nm13; apply Eq.refl)
  | (apply nm14; apply Eq.refl)
  | (apply nm15; apply Eq.refl)
  | (apply nm16; apply Eq.refl)
  | (apply nm17; apply Eq.refl)
  | (apply nm18; apply Eq.refl)
  | (apply nm19; apply Eq.refl)
  | (apply nm20; apply Eq.refl)
  | (apply nm21; apply Eq.refl)
  | (apply nm22; apply Eq.refl)
  | (apply nm23; apply Eq.refl)
  | (apply nm24; apply Eq.refl)
  | (apply nm25; apply Eq.refl)
  | (apply nm26; apply Eq.refl)
  | (apply nm27; apply Eq.refl)
  | (apply nm28; apply Eq.refl)
  | (apply nm29; apply Eq.refl)
  | (apply nm30; apply Eq.refl)
  | (apply nm31; apply Eq.refl)
  | (apply nm32; apply Eq.refl)) : p := h
theorem vA {p : Prop} (h : p := by 
  first
  | (apply w_move; apply Eq.refl; exact evA)
  | (apply E2; apply Eq.refl; exact evA)
  | (apply w_fldB2; apply Eq.refl; exact unL; apply Eq.refl; exact szL; exact evA; exact nmA)
  | (apply w_loadB1; apply Eq.refl; exact evA; exact ixA; exact agL; apply Eq.refl)
  | (apply Z3; apply Eq.refl; exact evA; exact ixA; exact agL; exact szL; apply Eq.refl)
  | (apply w_llen; apply Eq.refl; exact unL; exact evA)
  | (apply BH2; apply Eq.refl; exact evA; apply Eq.refl)
  | (apply w_not; apply Eq.refl; exact evA)
  | (apply w_loadE1; apply Eq.refl; exact evA; exact agL; apply Eq.refl)
  | (apply w_loadE; apply Eq.refl; exact evA; exact agL; exact szL)
  | (apply w_fldE2; apply Eq.refl; exact unL; apply Eq.refl; exact szL; exact evA; apply Eq.refl)
  | (apply w_nilB; apply Eq.refl; exact evA)
  | (apply w_and; apply Eq.refl; exact evA; exact eiA)
  | (apply w_or; apply Eq.refl; exact evA; exact eiA)
  | (apply w_lss; apply Eq.refl; exact evA; exact evA)
  | (apply w_eql; apply Eq.refl; exact evA; exact evA)
  | (apply AN5; apply Eq.refl; exact evA; exact evA; exact omA)
  | (apply w_subi; apply Eq.refl; exact evA; exact evA; exact omA)
  | (apply w_gtr; apply Eq.refl; exact evA; exact evA)
  | (apply w_leq; apply Eq.refl; exact evA; exact evA)
  | (apply w_geq; apply Eq.refl; exact evA; exact evA)
  | (apply w_neq; apply Eq.refl; exact evA; exact evA)
  | (apply Aa3; apply Eq.refl; exact evA; exact evA)
  | (apply Aa4; apply Eq.refl; exact evA; exact evA)
  | (apply w_alen; apply Eq.refl; exact unL; exact evA; exact ixA)
  | (apply w_slen; apply Eq.refl; exact unL; exact evA)
  | (apply w_build2; apply Eq.refl; exact zvL; exact plL; apply Eq.refl; exact bpA; apply Eq.refl)
  | (apply m5; apply Eq.refl; exact unL; exact szL; exact zvL; apply Eq.refl; apply Eq.refl; apply Eq.refl; apply Eq.refl; exact bpA; apply Eq.refl; apply Eq.refl)) : p := h
theorem s1 {A B : Prop} (h : B → A := by
 first
 | ((with_reducible apply gSq); first | (apply AI9; apply Eq.refl; apply Eq.refl; apply Eq.refl; exact vA) | apply sq_nil | (apply X2; apply Eq.refl; apply Eq.refl; exact gdA; exact (fun hc => vA)) | (apply BC0; apply Eq.refl; apply Eq.refl; apply Eq.refl; exact evA; exact evA; exact asA; exact ixA; exact szL; apply Eq.refl) | (apply O0; apply Eq.refl; apply Eq.refl; apply Eq.refl; exact evA; exact evA; exact asA; exact ixA; exact szL; apply Eq.refl) | (apply sq_alloc; apply Eq.refl; apply Eq.refl; apply Eq.refl; apply Eq.refl; exact zvL; apply Eq.refl) | (apply sq_box; apply Eq.refl; apply Eq.refl; apply Eq.refl; apply Eq.refl; exact evA))
 | ((with_reducible apply gCh); first | (apply A9; apply Eq.refl; apply Eq.refl; exact vA) | apply ch_nil | (apply M3; apply Eq.refl; exact gdA; exact (fun hc => vA)))
 | ((with_reducible apply gBc); first | (apply U8; apply Eq.refl; apply Eq.refl; apply Eq.refl; exact (fun ext => vA)) | apply bc_nil)
 | ((with_reducible apply gBt); first | (apply L5; apply Eq.refl; apply Eq.refl; apply Eq.refl; exact (fun ext => vA)) | apply bt_nil | apply bt_e1)
 | ((with_reducible apply gB3); first | (apply BI2; apply Eq.refl; apply Eq.refl; apply Eq.refl; exact (fun ext => vA)) | apply bt3_nil | apply bt3_e1)
 | apply awp_seq
 | apply BB5
 | apply BH1
 | apply awp_skip
 | apply awp_ret
 | apply awp_exit
 | (apply Af1; kernel_rfl; kernel_rfl; apply Eq.refl)) : B → A := h
theorem s2 {A B C : Prop} (g : B → A) (f : C → B) : C → A := fun c => g (f c)
theorem t1 {A B : Prop} (h : B → A := by exact s1) : B → A := h
theorem t2 {A B : Prop} (h : B → A := by exact s2 t1 t1) : B → A := h
theorem t4 {A B : Prop} (h : B → A := by exact s2 t2 t2) : B → A := h
theorem t8 {A B : Prop} (h : B → A := by exact s2 t4 t4) : B → A := h
theorem t16 {A B : Prop} (h : B → A := by exact s2 t8 t8) : B → A := h
theorem t32 {A B : Prop} (h : B → A := by exact s2 t16 t16) : B → A := h
theorem R1 {A B : Prop} (k : B) (h : B → A := by exact t1) : A := h k
theorem R2 {A B : Prop} (k : B) (h : B → A := by exact t2) : A := h k
theorem R3 {A B : Prop} (k : B) (h : B → A := by exact s2 t2 t1) : A := h k
theorem R4 {A B : Prop} (k : B) (h : B → A := by exact t4) : A := h k
theorem R5 {A B : Prop} (k : B) (h : B → A := by exact s2 t4 t1) : A := h k
theorem R6 {A B : Prop} (k : B) (h : B → A := by exact s2 t4 t2) : A := h k
theorem R7 {A B : Prop} (k : B) (h : B → A := by exact s2 t4 (s2 t2 t1)) : A := h k
theorem R8 {A B : Prop} (k : B) (h : B → A := by exact t8) : A := h k
theorem R9 {A B : Prop} (k : B) (h : B → A := by exact s2 t8 t1) : A := h k
theorem R10 {A B : Prop} (k : B) (h : B → A := by exact s2 t8 t2) : A := h k
theorem R11 {A B : Prop} (k : B) (h : B → A := by exact s2 t8 (s2 t2 t1)) : A := h k
theorem R12 {A B : Prop} (k : B) (h : B → A := by exact s2 t8 t4) : A := h k
theorem R13 {A B : Prop} (k : B) (h : B → A := by exact s2 t8 (s2 t4 t1)) : A := h k
theorem R14 {A B : Prop} (k : B) (h : B → A := by exact s2 t8 (s2 t4 t2)) : A := h k
theorem R15 {A B : Prop} (k : B) (h : B → A := by exact s2 t8 (s2 t4 (s2 t2 t1))) : A := h k
theorem R16 {A B : Prop} (k : B) (h : B → A := by exact t16) : A := h k
theorem R17 {A B : Prop} (k : B) (h : B → A := by exact s2 t16 t1) : A := h k
theorem R18 {A B : Prop} (k : B) (h : B → A := by exact s2 t16 t2) : A := h k
theorem R19 {A B : Prop} (k : B) (h : B → A := by exact s2 t16 (s2 t2 t1)) : A := h k
theorem R20 {A B : Prop} (k : B) (h : B → A := by exact s2 t16 t4) : A := h k
theorem R22 {A B : Prop} (k : B) (h : B → A := by exact s2 t16 (s2 t4 t2)) : A := h k
theorem R23 {A B : Prop} (k : B) (h : B → A := by exact s2 t16 (s2 t4 (s2 t2 t1))) : A := h k
theorem R24 {A B : Prop} (k : B) (h : B → A := by exact s2 t16 t8) : A := h k
theorem R26 {A B : Prop} (k : B) (h : B → A := by exact s2 t16 (s2 t8 t2)) : A := h k
theorem R29 {A B : Prop} (k : B) (h : B → A := by exact s2 t16 (s2 t8 (s2 t4 t1))) : A := h k
theorem R33 {A B : Prop} (k : B) (h : B → A := by exact s2 t32 t1) : A := h k
theorem R35 {A B : Prop} (k : B) (h : B → A := by exact s2 t32 (s2 t2 t1)) : A := h k
theorem R36 {A B : Prop} (k : B) (h : B → A := by exact s2 t32 t4) : A := h k
end Go.AV
namespace Go.M
open Go.AV
abbrev Str := List UInt8
@[reducible] def strs (l : List Str) : AV := AV.list 1 (l.map fun s => [AV.str s])
@[reducible] def ints (l : List Int) : AV := AV.list 1 (l.map fun s => [AV.int s])
def sizeL {α : Type} (f : α → Nat) (l : List α) : Nat := l.length + (l.map f).sum
def szR (n : Nat) (left : Int) : Int := if left < n then -1 else left - n
theorem sum_le {α : Type} (f : α → Nat) : ∀ (l : List α) (i : Nat) (x : α), l[i]? = some x → ((l.take i).map f).sum + f x ≤ (l.map f).sum
  | [], i, x, h => by simp at h
  | y :: l, 0, x, h => by simp at h; subst h; simp
  | y :: l, i + 1, x, h => by
    have := sum_le f l i x AW9
    simp only [AS4, List.map_cons, List.sum_cons]; omega
theorem y8 {α : Type} {f : α → Nat} {l : List α} {x : α} (h : x ∈ l) : f x ≤ sizeL f l := by
  obtain ⟨i, hi⟩ := List.getElem?_of_mem h
  have := sum_le f l i x hi
  unfold sizeL; omega
theorem K2 {α : Type} {f : α → Nat} {l : List α} : l.length ≤ sizeL f l := by unfold sizeL; omega
theorem T7 {α : Type} {f : α → Nat} {l : List α} {i : Nat} {x : α} (h : l[i]? = some x) : f x ≤ sizeL f l := y8 (C6 h)
def bs {α : Type} (f : α → Int) (l : List α) (i j : Nat) : Nat :=
  if i < j then
    match l[(i + j) / 2]? with
    | some x => if f x < 0 then bs f l ((i + j) / 2 + 1) j else bs f l i ((i + j) / 2)
    | none => i
  else i
termination_by j - i
def idxFrom {α : Type} (p : α → Bool) : List α → Int → Int
  | [], _ => -1
  | x :: xs, k => if p x then k else idxFrom p xs (k + 1)
theorem AV2 {α : Type} (p : α → Bool) : ∀ (l : List α) (k : Int), 0 ≤ k → decide (0 ≤ idxFrom p l k) = l.any p
  | [], _, _ => rfl
  | x :: xs, k, h => by
    unfold idxFrom
    cases hp : p x with
    | true => simp [hp]; exact h
    | false => simp [hp, AV2 p xs (k + 1) qz5]
structure Y5 where
  Off : Int
deriving DecidableEq, Inhabited
def Y5.cs (c : Y5) : List AV := [AV.int c.Off]
theorem Y5.flat (c : Y5) : ∀ x ∈ c.cs, Flat x := (B7 (G4 _ _) G8)
def Y5.size (c : Y5) : Nat := 0
structure AA0 where
  Who : Int
  From : Int
  Until : Int
deriving DecidableEq, Inhabited
def AA0.cs (c : AA0) : List AV := [AV.int c.Who, AV.int c.From, AV.int c.Until]
theorem AA0.flat (c : AA0) : ∀ x ∈ c.cs, Flat x := (B7 (G4 _ _) (B7 (G4 _ _) (B7 (G4 _ _) G8)))
def AA0.size (c : AA0) : Nat := 0
structure TWatch where
  True : Int
  Clocks : List Y5
  Given : List AA0
deriving DecidableEq, Inhabited
def TWatch.cs (c : TWatch) : List AV := [AV.int c.True, AV.list 1 (c.Clocks.map Y5.cs), AV.list 3 (c.Given.map AA0.cs)]
def TWatch.size (c : TWatch) : Nat := c.Clocks.length + c.Given.length
structure o6 where
  Kind : Int
  Who : Int
  By : Int
deriving DecidableEq, Inhabited
def o6.cs (c : o6) : List AV := [AV.int c.Kind, AV.int c.Who, AV.int c.By]
theorem o6.flat (c : o6) : ∀ x ∈ c.cs, Flat x := (B7 (G4 _ _) (B7 (G4 _ _) (B7 (G4 _ _) G8)))
def o6.size (c : o6) : Nat := 0
structure B4 where
  Key : Str
  Val : Str
  Gone : Bool
deriving DecidableEq, Inhabited
def B4.cs (c : B4) : List AV := [AV.str c.Key, AV.str c.Val, AV.bool c.Gone]
theorem B4.flat (c : B4) : ∀ x ∈ c.cs, Flat x := (B7 (L4 _) (B7 (L4 _) (B7 (P7 _) G8)))
def B4.size (c : B4) : Nat := c.Key.length + c.Val.length
def B4.ok (c : B4) : Prop := c.Key.length ≤ 9223372036854775807 ∧ c.Val.length ≤ 9223372036854775807
structure E8 where
  Kind : Int
  Txn : Int
  Time : Int
  Lead : Int
  Reads : List Str
  Writes : List B4
  Yes : Bool
deriving DecidableEq, Inhabited
def E8.cs (c : E8) : List AV := [AV.int c.Kind, AV.int c.Txn, AV.int c.Time, AV.int c.Lead, strs c.Reads, AV.list 3 (c.Writes.map B4.cs), AV.bool c.Yes]
def E8.size (c : E8) : Nat := sizeL (fun x => x.length) c.Reads + sizeL B4.size c.Writes
def E8.ok (c : E8) : Prop := (∀ x ∈ c.Reads, x.length ≤ 9223372036854775807) ∧ (∀ x ∈ c.Writes, x.ok)
structure B8 where
  Term : Int
  Rec : E8
deriving DecidableEq, Inhabited
def B8.cs (c : B8) : List AV := [AV.int c.Term, AV.int c.Rec.Kind, AV.int c.Rec.Txn, AV.int c.Rec.Time, AV.int c.Rec.Lead, strs c.Rec.Reads, AV.list 3 (c.Rec.Writes.map B4.cs), AV.bool c.Rec.Yes]
def B8.size (c : B8) : Nat := c.Rec.size
def B8.ok (c : B8) : Prop := c.Rec.ok
structure G6 where
  Kept : Str
  Loose : Str
deriving DecidableEq, Inhabited
def G6.cs (c : G6) : List AV := [AV.str c.Kept, AV.str c.Loose]
theorem G6.flat (c : G6) : ∀ x ∈ c.cs, Flat x := (B7 (L4 _) (B7 (L4 _) G8))
def G6.size (c : G6) : Nat := c.Kept.length + c.Loose.length
def G6.ok (c : G6) : Prop := c.Kept.length ≤ 9223372036854775807 ∧ c.Loose.length ≤ 9223372036854775807
structure C1 where
  Up : Bool
  Log : List B8
  Sure : Int
deriving DecidableEq, Inhabited
def C1.cs (c : C1) : List AV := [AV.bool c.Up, AV.list 8 (c.Log.map B8.cs), AV.int c.Sure]
def C1.size (c : C1) : Nat := sizeL B8.size c.Log
def C1.ok (c : C1) : Prop := (∀ x ∈ c.Log, x.ok)
structure TGroup where
  Reps : List C1
  Term : Int
  Lead : Int
deriving DecidableEq, Inhabited
def TGroup.cs (c : TGroup) : List AV := [AV.list 3 (c.Reps.map C1.cs), AV.int c.Term, AV.int c.Lead]
def TGroup.size (c : TGroup) : Nat := sizeL C1.size c.Reps
def TGroup.ok (c : TGroup) : Prop := (∀ x ∈ c.Reps, x.ok)
structure THouse where
  Group : TGroup
  Disks : List G6
deriving DecidableEq, Inhabited
def THouse.cs (c : THouse) : List AV := [AV.list 3 (c.Group.Reps.map C1.cs), AV.int c.Group.Term, AV.int c.Group.Lead, AV.list 2 (c.Disks.map G6.cs)]
def THouse.size (c : THouse) : Nat := c.Group.size + sizeL G6.size c.Disks
def THouse.ok (c : THouse) : Prop := c.Group.ok ∧ (∀ x ∈ c.Disks, x.ok)
structure N8 where
  Kind : Int
  Rep : Int
  Rec : E8
deriving DecidableEq, Inhabited
def N8.cs (c : N8) : List AV := [AV.int c.Kind, AV.int c.Rep, AV.int c.Rec.Kind, AV.int c.Rec.Txn, AV.int c.Rec.Time, AV.int c.Rec.Lead, strs c.Rec.Reads, AV.list 3 (c.Rec.Writes.map B4.cs), AV.bool c.Rec.Yes]
def N8.size (c : N8) : Nat := c.Rec.size
def N8.ok (c : N8) : Prop := c.Rec.ok
structure M1 where
  Kind : Int
  Rep : Int
  Rec : E8
  Keep : Int
  Torn : Bool
deriving DecidableEq, Inhabited
def M1.cs (c : M1) : List AV := [AV.int c.Kind, AV.int c.Rep, AV.int c.Rec.Kind, AV.int c.Rec.Txn, AV.int c.Rec.Time, AV.int c.Rec.Lead, strs c.Rec.Reads, AV.list 3 (c.Rec.Writes.map B4.cs), AV.bool c.Rec.Yes, AV.int c.Keep, AV.bool c.Torn]
def M1.size (c : M1) : Nat := c.Rec.size
def M1.ok (c : M1) : Prop := c.Rec.ok
structure m3 where
  Key : Str
  Txn : Int
  Write : Bool
deriving DecidableEq, Inhabited
def m3.cs (c : m3) : List AV := [AV.str c.Key, AV.int c.Txn, AV.bool c.Write]
theorem m3.flat (c : m3) : ∀ x ∈ c.cs, Flat x := (B7 (L4 _) (B7 (G4 _ _) (B7 (P7 _) G8)))
def m3.size (c : m3) : Nat := c.Key.length
def m3.ok (c : m3) : Prop := c.Key.length ≤ 9223372036854775807
structure c5 where
  Time : Int
  Val : Str
  Gone : Bool
deriving DecidableEq, Inhabited
def c5.cs (c : c5) : List AV := [AV.int c.Time, AV.str c.Val, AV.bool c.Gone]
theorem c5.flat (c : c5) : ∀ x ∈ c.cs, Flat x := (B7 (G4 _ _) (B7 (L4 _) (B7 (P7 _) G8)))
def c5.size (c : c5) : Nat := c.Val.length
def c5.ok (c : c5) : Prop := c.Val.length ≤ 9223372036854775807
structure O3 where
  Key : Str
  Vers : List c5
deriving DecidableEq, Inhabited
def O3.cs (c : O3) : List AV := [AV.str c.Key, AV.list 3 (c.Vers.map c5.cs)]
def O3.size (c : O3) : Nat := c.Key.length + sizeL c5.size c.Vers
def O3.ok (c : O3) : Prop := c.Key.length ≤ 9223372036854775807 ∧ (∀ x ∈ c.Vers, x.ok)
structure S2 where
  Txn : Int
  Time : Int
  Lead : Int
  Reads : List Str
  Writes : List B4
deriving DecidableEq, Inhabited
def S2.cs (c : S2) : List AV := [AV.int c.Txn, AV.int c.Time, AV.int c.Lead, strs c.Reads, AV.list 3 (c.Writes.map B4.cs)]
def S2.size (c : S2) : Nat := sizeL (fun x => x.length) c.Reads + sizeL B4.size c.Writes
def S2.ok (c : S2) : Prop := (∀ x ∈ c.Reads, x.length ≤ 9223372036854775807) ∧ (∀ x ∈ c.Writes, x.ok)
structure AB8 where
  Txn : Int
  Yes : Bool
  Time : Int
deriving DecidableEq, Inhabited
def AB8.cs (c : AB8) : List AV := [AV.int c.Txn, AV.bool c.Yes, AV.int c.Time]
theorem AB8.flat (c : AB8) : ∀ x ∈ c.cs, Flat x := (B7 (G4 _ _) (B7 (P7 _) (B7 (G4 _ _) G8)))
def AB8.size (c : AB8) : Nat := 0
structure Q5 where
  Floor : Int
  Cells : List O3
  Held : List S2
  Told : List AB8
deriving DecidableEq, Inhabited
def Q5.cs (c : Q5) : List AV := [AV.int c.Floor, AV.list 2 (c.Cells.map O3.cs), AV.list 5 (c.Held.map S2.cs), AV.list 3 (c.Told.map AB8.cs)]
def Q5.size (c : Q5) : Nat := sizeL O3.size c.Cells + sizeL S2.size c.Held + c.Told.length
def Q5.ok (c : Q5) : Prop := (∀ x ∈ c.Cells, x.ok) ∧ (∀ x ∈ c.Held, x.ok)
structure AT8 where
  Low : Int
  High : Int
deriving DecidableEq, Inhabited
def AT8.cs (c : AT8) : List AV := [AV.int c.Low, AV.int c.High]
theorem AT8.flat (c : AT8) : ∀ x ∈ c.cs, Flat x := (B7 (G4 _ _) (B7 (G4 _ _) G8))
def AT8.size (c : AT8) : Nat := 0
structure r7 where
  Txn : Int
  Reads : List Str
  Writes : List B4
deriving DecidableEq, Inhabited
def r7.cs (c : r7) : List AV := [AV.int c.Txn, strs c.Reads, AV.list 3 (c.Writes.map B4.cs)]
def r7.size (c : r7) : Nat := sizeL (fun x => x.length) c.Reads + sizeL B4.size c.Writes
def r7.ok (c : r7) : Prop := (∀ x ∈ c.Reads, x.length ≤ 9223372036854775807) ∧ (∀ x ∈ c.Writes, x.ok)
structure TDeal where
  Cuts : List Str
  States : List Q5
  Orders : List r7
deriving DecidableEq, Inhabited
def TDeal.cs (c : TDeal) : List AV := [strs c.Cuts, AV.list 4 (c.States.map Q5.cs), AV.list 3 (c.Orders.map r7.cs)]
def TDeal.size (c : TDeal) : Nat := sizeL (fun x => x.length) c.Cuts + sizeL Q5.size c.States + sizeL r7.size c.Orders
def TDeal.ok (c : TDeal) : Prop := (∀ x ∈ c.Cuts, x.length ≤ 9223372036854775807) ∧ (∀ x ∈ c.States, x.ok) ∧ (∀ x ∈ c.Orders, x.ok)
structure t6 where
  Kind : Int
  Txn : Int
  Part : Int
  Time : Int
deriving DecidableEq, Inhabited
def t6.cs (c : t6) : List AV := [AV.int c.Kind, AV.int c.Txn, AV.int c.Part, AV.int c.Time]
theorem t6.flat (c : t6) : ∀ x ∈ c.cs, Flat x := (B7 (G4 _ _) (B7 (G4 _ _) (B7 (G4 _ _) (B7 (G4 _ _) G8))))
def t6.size (c : t6) : Nat := 0
structure TOp where
  Kind : Int
  Key : Str
  Val : Str
  By : Int
deriving DecidableEq, Inhabited
def TOp.cs (c : TOp) : List AV := [AV.int c.Kind, AV.str c.Key, AV.str c.Val, AV.int c.By]
theorem TOp.flat (c : TOp) : ∀ x ∈ c.cs, Flat x := (B7 (G4 _ _) (B7 (L4 _) (B7 (L4 _) (B7 (G4 _ _) G8))))
def TOp.size (c : TOp) : Nat := c.Key.length + c.Val.length
def TOp.ok (c : TOp) : Prop := c.Key.length ≤ 9223372036854775807 ∧ c.Val.length ≤ 9223372036854775807
structure i7 where
  Key : Str
  Val : Str
  There : Bool
deriving DecidableEq, Inhabited
def i7.cs (c : i7) : List AV := [AV.str c.Key, AV.str c.Val, AV.bool c.There]
theorem i7.flat (c : i7) : ∀ x ∈ c.cs, Flat x := (B7 (L4 _) (B7 (L4 _) (B7 (P7 _) G8)))
def i7.size (c : i7) : Nat := c.Key.length + c.Val.length
def i7.ok (c : i7) : Prop := c.Key.length ≤ 9223372036854775807 ∧ c.Val.length ≤ 9223372036854775807
structure W3 where
  Ops : List TOp
  Got : List i7
  Terms : List Int
  Begin : Int
  End : Int
  Yes : Bool
  Time : Int
  Dead : Bool
  Put : Bool
  Stopped : Bool
deriving DecidableEq, Inhabited
def W3.cs (c : W3) : List AV := [AV.list 4 (c.Ops.map TOp.cs), AV.list 3 (c.Got.map i7.cs), ints c.Terms, AV.int c.Begin, AV.int c.End, AV.bool c.Yes, AV.int c.Time, AV.bool c.Dead, AV.bool c.Put, AV.bool c.Stopped]
def W3.size (c : W3) : Nat := sizeL TOp.size c.Ops + sizeL i7.size c.Got + c.Terms.length
def W3.ok (c : W3) : Prop := (∀ x ∈ c.Ops, x.ok) ∧ (∀ x ∈ c.Got, x.ok)
structure T4 where
  Node : Int
  Keys : List Str
  Got : List i7
  Time : Int
  Begin : Int
  End : Int
deriving DecidableEq, Inhabited
def T4.cs (c : T4) : List AV := [AV.int c.Node, strs c.Keys, AV.list 3 (c.Got.map i7.cs), AV.int c.Time, AV.int c.Begin, AV.int c.End]
def T4.size (c : T4) : Nat := sizeL (fun x => x.length) c.Keys + sizeL i7.size c.Got
def T4.ok (c : T4) : Prop := (∀ x ∈ c.Keys, x.length ≤ 9223372036854775807) ∧ (∀ x ∈ c.Got, x.ok)
structure TWorld where
  Now : Int
  Count : Int
  Clocks : List Y5
  Cuts : List Str
  Groups : List TGroup
  Locks : List (List m3)
  Promised : List Int
  Txns : List W3
  Looks : List T4
deriving DecidableEq, Inhabited
def TWorld.cs (c : TWorld) : List AV := [AV.int c.Now, AV.int c.Count, AV.list 1 (c.Clocks.map Y5.cs), strs c.Cuts, AV.list 3 (c.Groups.map TGroup.cs), AV.list 1 (c.Locks.map fun x => [AV.list 3 (x.map m3.cs)]), ints c.Promised, AV.list 10 (c.Txns.map W3.cs), AV.list 6 (c.Looks.map T4.cs)]
def TWorld.size (c : TWorld) : Nat := c.Clocks.length + sizeL (fun x => x.length) c.Cuts + sizeL TGroup.size c.Groups + sizeL (fun x => sizeL m3.size x) c.Locks + c.Promised.length + sizeL W3.size c.Txns + sizeL T4.size c.Looks
def TWorld.ok (c : TWorld) : Prop := (∀ x ∈ c.Cuts, x.length ≤ 9223372036854775807) ∧ (∀ x ∈ c.Groups, x.ok) ∧ (∀ x ∈ c.Locks, (∀ y ∈ x, y.ok)) ∧ (∀ x ∈ c.Txns, x.ok) ∧ (∀ x ∈ c.Looks, x.ok)
structure i8 where
  Kind : Int
  At : Int
  By : Int
deriving DecidableEq, Inhabited
def i8.cs (c : i8) : List AV := [AV.int c.Kind, AV.int c.At, AV.int c.By]
theorem i8.flat (c : i8) : ∀ x ∈ c.cs, Flat x := (B7 (G4 _ _) (B7 (G4 _ _) (B7 (G4 _ _) G8)))
def i8.size (c : i8) : Nat := 0
structure AT9 where
  Txn : Int
  Begin : Int
  End : Int
  Yes : Bool
  Look : Bool
  Time : Int
  Got : List i7
  Writes : List B4
deriving DecidableEq, Inhabited
def AT9.cs (c : AT9) : List AV := [AV.int c.Txn, AV.int c.Begin, AV.int c.End, AV.bool c.Yes, AV.bool c.Look, AV.int c.Time, AV.list 3 (c.Got.map i7.cs), AV.list 3 (c.Writes.map B4.cs)]
def AT9.size (c : AT9) : Nat := sizeL i7.size c.Got + sizeL B4.size c.Writes
def AT9.ok (c : AT9) : Prop := (∀ x ∈ c.Got, x.ok) ∧ (∀ x ∈ c.Writes, x.ok)
structure P9 where
  Ver : Int
  Cuts : List Str
  Groups : List Int
deriving DecidableEq, Inhabited
def P9.cs (c : P9) : List AV := [AV.int c.Ver, strs c.Cuts, ints c.Groups]
def P9.size (c : P9) : Nat := sizeL (fun x => x.length) c.Cuts + c.Groups.length
def P9.ok (c : P9) : Prop := (∀ x ∈ c.Cuts, x.length ≤ 9223372036854775807)
structure AI4 where
  Maps : List P9
  Knows : List Int
deriving DecidableEq, Inhabited
def AI4.cs (c : AI4) : List AV := [AV.list 3 (c.Maps.map P9.cs), ints c.Knows]
def AI4.size (c : AI4) : Nat := sizeL P9.size c.Maps + c.Knows.length
def AI4.ok (c : AI4) : Prop := (∀ x ∈ c.Maps, x.ok)
structure TMove where
  Low : Str
  High : Str
  Phase : Int
  From : List B4
  To : List B4
  Last : Str
  Over : Bool
deriving DecidableEq, Inhabited
def TMove.cs (c : TMove) : List AV := [AV.str c.Low, AV.str c.High, AV.int c.Phase, AV.list 3 (c.From.map B4.cs), AV.list 3 (c.To.map B4.cs), AV.str c.Last, AV.bool c.Over]
def TMove.size (c : TMove) : Nat := c.Low.length + c.High.length + sizeL B4.size c.From + sizeL B4.size c.To + c.Last.length
def TMove.ok (c : TMove) : Prop := c.Low.length ≤ 9223372036854775807 ∧ c.High.length ≤ 9223372036854775807 ∧ (∀ x ∈ c.From, x.ok) ∧ (∀ x ∈ c.To, x.ok) ∧ c.Last.length ≤ 9223372036854775807
structure i9 where
  Kind : Int
  Write : B4
  Many : Int
deriving DecidableEq, Inhabited
def i9.cs (c : i9) : List AV := [AV.int c.Kind, AV.str c.Write.Key, AV.str c.Write.Val, AV.bool c.Write.Gone, AV.int c.Many]
theorem i9.flat (c : i9) : ∀ x ∈ c.cs, Flat x := (B7 (G4 _ _) (B7 (L4 _) (B7 (L4 _) (B7 (P7 _) (B7 (G4 _ _) G8)))))
def i9.size (c : i9) : Nat := c.Write.size
def i9.ok (c : i9) : Prop := c.Write.ok
structure M6 where
  Time : Int
  Group : Int
  Key : Str
  Val : Str
  Gone : Bool
deriving DecidableEq, Inhabited
def M6.cs (c : M6) : List AV := [AV.int c.Time, AV.int c.Group, AV.str c.Key, AV.str c.Val, AV.bool c.Gone]
theorem M6.flat (c : M6) : ∀ x ∈ c.cs, Flat x := (B7 (G4 _ _) (B7 (G4 _ _) (B7 (L4 _) (B7 (L4 _) (B7 (P7 _) G8)))))
def M6.size (c : M6) : Nat := c.Key.length + c.Val.length
def M6.ok (c : M6) : Prop := c.Key.length ≤ 9223372036854775807 ∧ c.Val.length ≤ 9223372036854775807
structure AC2 where
  Done : Int
deriving DecidableEq, Inhabited
def AC2.cs (c : AC2) : List AV := [AV.int c.Done]
theorem AC2.flat (c : AC2) : ∀ x ∈ c.cs, Flat x := (B7 (G4 _ _) G8)
def AC2.size (c : AC2) : Nat := 0
structure j0 where
  Name : Str
  Col : Int
  Stage : Int
deriving DecidableEq, Inhabited
def j0.cs (c : j0) : List AV := [AV.str c.Name, AV.int c.Col, AV.int c.Stage]
theorem j0.flat (c : j0) : ∀ x ∈ c.cs, Flat x := (B7 (L4 _) (B7 (G4 _ _) (B7 (G4 _ _) G8)))
def j0.size (c : j0) : Nat := c.Name.length
def j0.ok (c : j0) : Prop := c.Name.length ≤ 9223372036854775807
structure Z7 where
  Name : Str
  Cols : List Str
  Idxs : List j0
deriving DecidableEq, Inhabited
def Z7.cs (c : Z7) : List AV := [AV.str c.Name, strs c.Cols, AV.list 3 (c.Idxs.map j0.cs)]
def Z7.size (c : Z7) : Nat := c.Name.length + sizeL (fun x => x.length) c.Cols + sizeL j0.size c.Idxs
def Z7.ok (c : Z7) : Prop := c.Name.length ≤ 9223372036854775807 ∧ (∀ x ∈ c.Cols, x.length ≤ 9223372036854775807) ∧ (∀ x ∈ c.Idxs, x.ok)
structure TRow where
  Vals : List Str
deriving DecidableEq, Inhabited
def TRow.cs (c : TRow) : List AV := [strs c.Vals]
def TRow.size (c : TRow) : Nat := sizeL (fun x => x.length) c.Vals
def TRow.ok (c : TRow) : Prop := (∀ x ∈ c.Vals, x.length ≤ 9223372036854775807)
structure j9 where
  Kind : Int
  Old : TRow
  New : TRow
deriving DecidableEq, Inhabited
def j9.cs (c : j9) : List AV := [AV.int c.Kind, strs c.Old.Vals, strs c.New.Vals]
def j9.size (c : j9) : Nat := c.Old.size + c.New.size
def j9.ok (c : j9) : Prop := c.Old.ok ∧ c.New.ok
structure TShift where
  Name : Str
  Ways : List Z7
  At : List Int
  Store : List B4
deriving DecidableEq, Inhabited
def TShift.cs (c : TShift) : List AV := [AV.str c.Name, AV.list 3 (c.Ways.map Z7.cs), ints c.At, AV.list 3 (c.Store.map B4.cs)]
def TShift.size (c : TShift) : Nat := c.Name.length + sizeL Z7.size c.Ways + c.At.length + sizeL B4.size c.Store
def TShift.ok (c : TShift) : Prop := c.Name.length ≤ 9223372036854775807 ∧ (∀ x ∈ c.Ways, x.ok) ∧ (∀ x ∈ c.Store, x.ok)
structure j1 where
  Server : Int
  Step : Int
  Act : j9
deriving DecidableEq, Inhabited
def j1.cs (c : j1) : List AV := [AV.int c.Server, AV.int c.Step, AV.int c.Act.Kind, strs c.Act.Old.Vals, strs c.Act.New.Vals]
def j1.size (c : j1) : Nat := c.Act.size
def j1.ok (c : j1) : Prop := c.Act.ok
structure o7 where
  Ver : Int
  Until : Int
deriving DecidableEq, Inhabited
def o7.cs (c : o7) : List AV := [AV.int c.Ver, AV.int c.Until]
theorem o7.flat (c : o7) : ∀ x ∈ c.cs, Flat x := (B7 (G4 _ _) (B7 (G4 _ _) G8))
def o7.size (c : o7) : Nat := 0
structure TRenew where
  Now : Int
  Master : Y5
  Clocks : List Y5
  Ver : Int
  Leases : List o7
deriving DecidableEq, Inhabited
def TRenew.cs (c : TRenew) : List AV := [AV.int c.Now, AV.int c.Master.Off, AV.list 1 (c.Clocks.map Y5.cs), AV.int c.Ver, AV.list 2 (c.Leases.map o7.cs)]
def TRenew.size (c : TRenew) : Nat := c.Clocks.length + c.Leases.length
structure o8 where
  Kind : Int
  Who : Int
  By : Int
deriving DecidableEq, Inhabited
def o8.cs (c : o8) : List AV := [AV.int c.Kind, AV.int c.Who, AV.int c.By]
theorem o8.flat (c : o8) : ∀ x ∈ c.cs, Flat x := (B7 (G4 _ _) (B7 (G4 _ _) (B7 (G4 _ _) G8)))
def o8.size (c : o8) : Nat := 0
structure w7 where
  Last : Str
  Over : Bool
deriving DecidableEq, Inhabited
def w7.cs (c : w7) : List AV := [AV.str c.Last, AV.bool c.Over]
theorem w7.flat (c : w7) : ∀ x ∈ c.cs, Flat x := (B7 (L4 _) (B7 (P7 _) G8))
def w7.size (c : w7) : Nat := c.Last.length
def w7.ok (c : w7) : Prop := c.Last.length ≤ 9223372036854775807
structure TWork where
  Shift : TShift
  Up : w7
  Down : w7
deriving DecidableEq, Inhabited
def TWork.cs (c : TWork) : List AV := [AV.str c.Shift.Name, AV.list 3 (c.Shift.Ways.map Z7.cs), ints c.Shift.At, AV.list 3 (c.Shift.Store.map B4.cs), AV.str c.Up.Last, AV.bool c.Up.Over, AV.str c.Down.Last, AV.bool c.Down.Over]
def TWork.size (c : TWork) : Nat := c.Shift.size + c.Up.size + c.Down.size
def TWork.ok (c : TWork) : Prop := c.Shift.ok ∧ c.Up.ok ∧ c.Down.ok
structure t7 where
  Kind : Int
  Many : Int
  Act : j1
deriving DecidableEq, Inhabited
def t7.cs (c : t7) : List AV := [AV.int c.Kind, AV.int c.Many, AV.int c.Act.Server, AV.int c.Act.Step, AV.int c.Act.Act.Kind, strs c.Act.Act.Old.Vals, strs c.Act.Act.New.Vals]
def t7.size (c : t7) : Nat := c.Act.size
def t7.ok (c : t7) : Prop := c.Act.ok
structure AU0 where
  Kind : Int
  Act : j9
  Idx : Str
  Low : Str
  High : Str
deriving DecidableEq, Inhabited
def AU0.cs (c : AU0) : List AV := [AV.int c.Kind, AV.int c.Act.Kind, strs c.Act.Old.Vals, strs c.Act.New.Vals, AV.str c.Idx, AV.str c.Low, AV.str c.High]
def AU0.size (c : AU0) : Nat := c.Act.size + c.Idx.length + c.Low.length + c.High.length
def AU0.ok (c : AU0) : Prop := c.Act.ok ∧ c.Idx.length ≤ 9223372036854775807 ∧ c.Low.length ≤ 9223372036854775807 ∧ c.High.length ≤ 9223372036854775807
structure AU1 where
  Time : Int
  Rows : List B4
deriving DecidableEq, Inhabited
def AU1.cs (c : AU1) : List AV := [AV.int c.Time, AV.list 3 (c.Rows.map B4.cs)]
def AU1.size (c : AU1) : Nat := sizeL B4.size c.Rows
def AU1.ok (c : AU1) : Prop := (∀ x ∈ c.Rows, x.ok)
structure AU2 where
  From : Int
  To : Int
  List_ : List M6
deriving DecidableEq, Inhabited
def AU2.cs (c : AU2) : List AV := [AV.int c.From, AV.int c.To, AV.list 5 (c.List_.map M6.cs)]
def AU2.size (c : AU2) : Nat := sizeL M6.size c.List_
def AU2.ok (c : AU2) : Prop := (∀ x ∈ c.List_, x.ok)
structure c6 where
  Ver : Int
  Fill : Bool
  Act : j9
  Row : TRow
deriving DecidableEq, Inhabited
def c6.cs (c : c6) : List AV := [AV.int c.Ver, AV.bool c.Fill, AV.int c.Act.Kind, strs c.Act.Old.Vals, strs c.Act.New.Vals, strs c.Row.Vals]
def c6.size (c : c6) : Nat := c.Act.size + c.Row.size
def c6.ok (c : c6) : Prop := c.Act.ok ∧ c.Row.ok
structure TLive where
  Name : Str
  Ways : List Z7
  Low : Int
  Since : List Int
  Jobs : List c6
  World : TWorld
deriving DecidableEq, Inhabited
def TLive.cs (c : TLive) : List AV := [AV.str c.Name, AV.list 3 (c.Ways.map Z7.cs), AV.int c.Low, ints c.Since, AV.list 6 (c.Jobs.map c6.cs), AV.int c.World.Now, AV.int c.World.Count, AV.list 1 (c.World.Clocks.map Y5.cs), strs c.World.Cuts, AV.list 3 (c.World.Groups.map TGroup.cs), AV.list 1 (c.World.Locks.map fun x => [AV.list 3 (x.map m3.cs)]), ints c.World.Promised, AV.list 10 (c.World.Txns.map W3.cs), AV.list 6 (c.World.Looks.map T4.cs)]
def TLive.size (c : TLive) : Nat := c.Name.length + sizeL Z7.size c.Ways + c.Since.length + sizeL c6.size c.Jobs + c.World.size
def TLive.ok (c : TLive) : Prop := c.Name.length ≤ 9223372036854775807 ∧ (∀ x ∈ c.Ways, x.ok) ∧ (∀ x ∈ c.Jobs, x.ok) ∧ c.World.ok
structure u1 where
  Kind : Int
  Act : i8
deriving DecidableEq, Inhabited
def u1.cs (c : u1) : List AV := [AV.int c.Kind, AV.int c.Act.Kind, AV.int c.Act.At, AV.int c.Act.By]
theorem u1.flat (c : u1) : ∀ x ∈ c.cs, Flat x := (B7 (G4 _ _) (B7 (G4 _ _) (B7 (G4 _ _) (B7 (G4 _ _) G8))))
def u1.size (c : u1) : Nat := 0
structure X1 where
  From : Int
  To : Int
  Due : Int
  Body : Str
deriving DecidableEq, Inhabited
def X1.cs (c : X1) : List AV := [AV.int c.From, AV.int c.To, AV.int c.Due, AV.str c.Body]
theorem X1.flat (c : X1) : ∀ x ∈ c.cs, Flat x := (B7 (G4 _ _) (B7 (G4 _ _) (B7 (G4 _ _) (B7 (L4 _) G8))))
def X1.size (c : X1) : Nat := c.Body.length
def X1.ok (c : X1) : Prop := c.Body.length ≤ 9223372036854775807
structure AZ4 where
  Now : Int
  Homes : List Int
  Far : Int
  Under : List X1
deriving DecidableEq, Inhabited
def AZ4.cs (c : AZ4) : List AV := [AV.int c.Now, ints c.Homes, AV.int c.Far, AV.list 4 (c.Under.map X1.cs)]
def AZ4.size (c : AZ4) : Nat := c.Homes.length + sizeL X1.size c.Under
def AZ4.ok (c : AZ4) : Prop := (∀ x ∈ c.Under, x.ok)
structure AD7 where
  Up : Bool
  Term : Int
  For : Int
  Yes : List Int
  Leads : Bool
deriving DecidableEq, Inhabited
def AD7.cs (c : AD7) : List AV := [AV.bool c.Up, AV.int c.Term, AV.int c.For, ints c.Yes, AV.bool c.Leads]
def AD7.size (c : AD7) : Nat := c.Yes.length
structure AS2 where
  Term : Int
  Who : Int
deriving DecidableEq, Inhabited
def AS2.cs (c : AS2) : List AV := [AV.int c.Term, AV.int c.Who]
theorem AS2.flat (c : AS2) : ∀ x ∈ c.cs, Flat x := (B7 (G4 _ _) (B7 (G4 _ _) G8))
def AS2.size (c : AS2) : Nat := 0
structure TPoll where
  Voters : List AD7
  Net : AZ4
  Won : List AS2
deriving DecidableEq, Inhabited
def TPoll.cs (c : TPoll) : List AV := [AV.list 5 (c.Voters.map AD7.cs), AV.int c.Net.Now, ints c.Net.Homes, AV.int c.Net.Far, AV.list 4 (c.Net.Under.map X1.cs), AV.list 2 (c.Won.map AS2.cs)]
def TPoll.size (c : TPoll) : Nat := sizeL AD7.size c.Voters + c.Net.size + c.Won.length
def TPoll.ok (c : TPoll) : Prop := c.Net.ok
structure u2 where
  Kind : Int
  Who : Int
  By : Int
deriving DecidableEq, Inhabited
def u2.cs (c : u2) : List AV := [AV.int c.Kind, AV.int c.Who, AV.int c.By]
theorem u2.flat (c : u2) : ∀ x ∈ c.cs, Flat x := (B7 (G4 _ _) (B7 (G4 _ _) (B7 (G4 _ _) G8)))
def u2.size (c : u2) : Nat := 0
end Go.M
namespace Go.M
def within (n lo hi : Int) : Bool := decide (lo ≤ n) && decide (n ≤ hi)
def lowDig (b : UInt8) : Bool := (decide ((97 : Int) ≤ (b.toNat : Int)) && decide ((b.toNat : Int) ≤ 122)) || (decide ((48 : Int) ≤ (b.toNat : Int)) && decide ((b.toNat : Int) ≤ 57))
def idxB (s : Str) (c : UInt8) : Int := firstIdx ⟨s.toArray⟩ c
def hasB (s o : Str) : Bool := s.all fun c => !(!lowDig c && decide (idxB o c < 0))
def goodKey (s : Str) : Bool := within s.length 1 12 && hasB s [46, 47]
def goodVal (s : Str) : Bool := decide ((s.length : Int) ≤ 24) && hasB s [46, 45, 44, 95]
def l3Bytes (s o : Str) : Bool := s.all fun c => (lowDig c || o.any fun d => ((c.toNat : Int) == (d.toNat : Int)))
def l3Key (s : Str) : Bool := within s.length 1 12 && l3Bytes s [46, 47]
theorem Aj4 (c : UInt8) (s o : Str) : hasB (c :: s) o = (!(!lowDig c && decide (idxB o c < 0)) && hasB s o) := rfl
theorem AO8 (c : UInt8) (s o : Str) : l3Bytes (c :: s) o = ((lowDig c || o.any fun d => ((c.toNat : Int) == (d.toNat : Int))) && l3Bytes s o) := rfl
theorem idxB_neg (o : Str) (c : UInt8) : decide (idxB o c < 0) = !(o.any fun d => ((c.toNat : Int) == (d.toNat : Int))) := by
  have hm : (o.any fun d => ((c.toNat : Int) == (d.toNat : Int))) = decide (c ∈ o) := by
    rw [Bool.eq_iff_iff]
    simp only [List.any_eq_true, beq_iff_eq, decide_eq_true_eq]
    constructor
    · rintro ⟨d, hd, he⟩
      have : c = d := UInt8.toNat_inj.1 (by exact_mod_cast he)
      exact this ▸ hd
    · intro h; exact ⟨c, h, rfl⟩
  rw [hm]
  unfold idxB firstIdx
  have hsz : (ByteArray.mk o.toArray).size = o.length := by simp [ByteArray.size]
  have hget : ∀ i, i < o.length → (ByteArray.mk o.toArray)[i]! = o[i]! := fun i hi => by
    simp [getElem!_def, ByteArray.getElem?_lt', hsz, hi]
    rfl
  rw [hsz]
  cases hf : (List.range o.length).find? fun i => (ByteArray.mk o.toArray)[i]! == c with
  | some i =>
    have h1 := List.find?_some hf
    have h2 := List.mem_range.1 (List.mem_of_find?_eq_some hf)
    rw [hget i h2] at h1
    have h3 : c ∈ o := by
      have : o[i]! = c := by simpa using h1
      rw [← this, getElem!_pos o i h2]
      exact List.getElem_mem h2
    simp [h3]
  | none =>
    have h1 := List.find?_eq_none.1 hf
    have h3 : ¬ c ∈ o := fun hm => by
      obtain ⟨i, hi, he⟩ := List.getElem_of_mem hm
      have := h1 i (List.mem_range.2 hi)
      rw [hget i hi, getElem!_pos o i hi, he] at this
      simp at this
    simp [h3]
theorem Az7 (s o : Str) : hasB s o = l3Bytes s o := by
  unfold hasB l3Bytes
  congr 1
  funext c
  rw [idxB_neg]
  cases lowDig c <;> simp
theorem AK4 (s : Str) : goodKey s = l3Key s := by unfold goodKey l3Key; rw [Az7]
theorem S7 : ∀ a : Str, Op.bytesLess a a = false
  | [] => rfl
  | a :: x => by simp [Op.bytesLess, S7 x]
theorem d3 : ∀ a b : Str, Op.bytesLess a b = !(Op.bytesLess b a || b == a)
  | [], [] => rfl
  | [], _ :: _ => rfl
  | _ :: _, [] => rfl
  | a :: x, b :: y => by
    have ih := d3 x y
    simp only [Op.bytesLess]
    by_cases hab : a = b
    · subst hab
      simp [ih]
    · have h1 : (a == b) = false := by simpa using hab
      have h2 : (b == a) = false := by simpa using fun h => hab h.symm
      have h3 : (b :: y == a :: x) = false := by simp [h2]
      simp only [h1, h2, h3, Bool.false_and, Bool.or_false]
      rw [Bool.eq_iff_iff]
      simp only [decide_eq_true_eq, Bool.not_eq_true', decide_eq_false_iff_not, UInt8.not_lt]
      constructor
      · exact UInt8.le_of_lt
      · exact fun h => UInt8.lt_of_le_of_ne h hab
def adj {α : Type} (p : α → α → Bool) : List α → Bool
  | [] => true
  | [_] => true
  | x :: y :: l => p x y && adj p (y :: l)
theorem Ap9 {α : Type} {l : List α} {k : Nat} {x y : α} (hy : l[k]? = some y) (hx : l[k + 1]? = some x) : l.drop k = y :: x :: l.drop (k + 2) := by
  rw [Go.AV.drop_some hy, Go.AV.drop_some hx]
theorem AX9 {α : Type} {p : α → α → Bool} {l : List α} {i : Nat} {x y : α} (hx : l[i]? = some x) (hy : l[i - 1]? = some y) (h : 0 < i → p y x = true) : adj p (l.drop (i - 1)) = adj p (l.drop (i + 1 - 1)) := by
  cases i with
  | zero => rfl
  | succ k =>
    simp only [Nat.add_sub_cancel] at *
    rw [Ap9 hy hx, Go.AV.drop_some hx, adj, h qz5, Bool.true_and]
theorem AY0 {α : Type} {p : α → α → Bool} {l : List α} {i : Nat} {x y : α} (hx : l[i]? = some x) (hy : l[i - 1]? = some y) (h0 : 0 < i) (h : p y x = false) : adj p (l.drop (i - 1)) = false := by
  cases i with
  | zero => omega
  | succ k =>
    simp only [Nat.add_sub_cancel] at *
    rw [Ap9 hy hx, adj, h, Bool.false_and]
theorem Af7 {α : Type} {p : α → α → Bool} {l : List α} {i : Nat} (h : l.length ≤ i) : adj p (l.drop (i - 1)) = true := by
  have hl : (l.drop (i - 1)).length ≤ 1 := by rw [List.length_drop]; omega
  match hd : l.drop (i - 1), hl with
  | [], _ => rfl
  | [x], _ => rfl
def isTime (t : Int) : Bool := within t 1 100000
def isStored (val : Str) (gone : Bool) : Bool := goodVal val && !(gone && val != [])
def l3Val (s : Str) : Bool := decide ((s.length : Int) ≤ 24) && l3Bytes s [46, 45, 44, 95]
def l3Write (key val : Str) (gone : Bool) : Bool := l3Key key && l3Val val && (!gone || val == [])
theorem BC9 (s : Str) : goodVal s = l3Val s := by unfold goodVal l3Val; rw [Az7]
theorem Au7 (s : Str) (g : Bool) : isStored s g = (l3Val s && (!g || s == [])) := by
  unfold isStored; rw [BC9]; cases g <;> simp [bne]
theorem Aq0 {α : Type} {p : α → Bool} {l : List α} {i : Nat} {x : α} (hx : l[i]? = some x) (h : p x = true) : (l.drop i).all p = (l.drop (i + 1)).all p := by
  rw [Go.AV.drop_some hx, List.all_cons, h, Bool.true_and]
theorem Aq1 {α : Type} {p : α → Bool} {l : List α} {i : Nat} {x : α} (hx : l[i]? = some x) (h : p x = false) : (l.drop i).all p = false := by
  rw [Go.AV.drop_some hx, List.all_cons, h, Bool.false_and]
theorem Az8 {α : Type} {p : α → Bool} {l : List α} {i : Nat} (h : l.length ≤ i) : (l.drop i).all p = true := by
  rw [List.drop_eq_nil_of_le h]; rfl
theorem Al8 {α β : Type} {f : α → β} {l : List α} {i : Nat} {x : α} (h : l[i]? = some x) : (l.take i).map f ++ [f x] = (l.take (i + 1)).map f := by
  rw [List.take_add_one, h]; simp
def areRising (l : List Str) : Bool := l.all goodKey && adj Op.bytesLess l
def AU3 (l : List B4) : List Str := l.map B4.Key
def goodWrites (l : List B4) : Bool := decide ((l.length : Int) ≤ 24) && areRising (AU3 l) && !(l.any fun w => !isStored w.Val w.Gone)
def AB9 (a b : B4) : Bool := Op.bytesLess a.Key b.Key
def w8 (w : B4) : Bool := l3Write w.Key w.Val w.Gone
def l3Writes (l : List B4) : Bool := (l.all w8 && adj AB9 l) && decide ((l.length : Int) ≤ 24)
theorem Az9 {α β : Type} (f : α → β) (p : β → β → Bool) : ∀ l : List α, adj p (l.map f) = adj (fun a b => p (f a) (f b)) l
  | [] => rfl
  | [_] => rfl
  | x :: y :: l => by
    have := Az9 f p (y :: l)
    simp only [List.map_cons, adj] at *
    rw [this]
theorem AL8 (l : List B4) : goodWrites l = l3Writes l := by
  unfold goodWrites l3Writes areRising AU3
  rw [Az9, List.all_map, List.not_any_eq_all_not]
  have h2 : l.all w8 = ((l.all (goodKey ∘ B4.Key)) && l.all fun w => l3Val w.Val && (!w.Gone || w.Val == [])) := by
    induction l with
    | nil => rfl
    | cons w l ih =>
      simp only [List.all_cons, ih, w8, l3Write, Function.comp, AK4, Bool.and_assoc]
      cases l3Key w.Key <;> cases l3Val w.Val <;> cases (!w.Gone || w.Val == []) <;> simp only [Bool.true_and, Bool.and_true, Bool.false_and, Bool.and_false]
  have h1 : (l.all fun w => !!isStored w.Val w.Gone) = l.all fun w => l3Val w.Val && (!w.Gone || w.Val == []) := by
    congr 1; funext w; rw [Bool.not_not, Au7]
  rw [h1, h2]
  show _ = _
  have h3 : adj (fun a b => Op.bytesLess a.Key b.Key) l = adj AB9 l := rfl
  rw [h3]
  cases l.all (goodKey ∘ B4.Key) <;> cases adj AB9 l <;> cases decide ((l.length : Int) ≤ 24) <;> cases (l.all fun w => l3Val w.Val && (!w.Gone || w.Val == [])) <;> rfl
def numB (n : Nat) : Str := if h : 128 ≤ n then UInt8.ofNat (n % 128 + 128) :: numB (n / 128) else [UInt8.ofNat n]
termination_by n
decreasing_by omega
theorem p9 {n : Nat} (h : n < 128) : numB n = [UInt8.ofNat n] := by rw [numB, dif_neg qz5]
theorem AC6 {n : Nat} (h : 128 ≤ n) : numB n = UInt8.ofNat (n % 128 + 128) :: numB (n / 128) := by rw [numB, dif_pos h]
theorem AO9 {n : Nat} (h : n < 256) : (UInt8.ofNat n).toNat = n := by rw [UInt8.toNat_ofNat']; exact Nat.mod_eq_of_lt h
def vpre : Str → Option Str
  | [] => none
  | b :: s => if b.toNat < 128 then some [b] else (vpre s).map (b :: ·)
def vval : Str → Nat
  | [] => 0
  | b :: s => b.toNat % 128 + 128 * vval s
def numP (s : Str) : Option (Nat × Nat) := match vpre s with
  | none => none
  | some p => if vval p ≤ 1000000000 ∧ numB (vval p) = p then some (vval p, p.length) else none
def c7 (s : Str) : Prop := ∀ b ∈ s, 128 ≤ b.toNat
theorem y9 : ∀ {p : Str} {s : Str}, c7 p → vpre (p ++ s) = (vpre s).map (p ++ ·)
  | [], s, _ => by rw [List.nil_append]; cases vpre s <;> rfl
  | b :: p, s, h => by
    have hb := h b List.mem_cons_self
    show (if b.toNat < 128 then some [b] else (vpre (p ++ s)).map (b :: ·)) = _
    rw [if_neg qz5, y9 fun c hc => h c (List.mem_cons_of_mem _ hc), Option.map_map]
    rfl
theorem Aj5 {p : Str} {b : UInt8} {s : Str} (h : c7 p) (hb : b.toNat < 128) : vpre (p ++ b :: s) = some (p ++ [b]) := by
  rw [y9 h]
  show ((if b.toNat < 128 then some [b] else (vpre s).map (b :: ·)).map (p ++ ·)) = _
  rw [if_pos hb]; rfl
theorem BI4 {p : Str} (h : c7 p) : vpre p = none := by
  have := y9 (s := []) h
  rw [List.append_nil] at this; exact this
theorem AY1 : ∀ (p s : Str), vval (p ++ s) = vval p + 128 ^ p.length * vval s
  | [], s => by simp [vval]
  | b :: p, s => by
    show b.toNat % 128 + 128 * vval (p ++ s) = b.toNat % 128 + 128 * vval p + 128 ^ (p.length + 1) * vval s
    rw [AY1 p s, Nat.mul_add, Nat.pow_succ, ← Nat.mul_assoc, Nat.mul_comm (128 ^ p.length) 128]; omega
theorem AP0 (p : Str) (b : UInt8) : vval (p ++ [b]) = vval p + b.toNat % 128 * 128 ^ p.length := by
  rw [AY1]; show vval p + 128 ^ p.length * (b.toNat % 128 + 128 * 0) = _; rw [Nat.mul_zero, Nat.add_zero, Nat.mul_comm]
theorem AP1 (n : Nat) : ∃ (p : Str) (b : UInt8), numB n = p ++ [b] ∧ c7 p ∧ b.toNat < 128 := by
  induction n using Nat.strongRecOn with
  | _ n ih =>
    rcases Nat.lt_or_ge n 128 with h | h
    · exact ⟨[], _, p9 h, fun b hb => by simp at hb, by rw [AO9 qz5]; exact h⟩
    · obtain ⟨p, b, h1, h2, h3⟩ := ih (n / 128) qz5
      refine ⟨UInt8.ofNat (n % 128 + 128) :: p, b, by rw [AC6 h, h1]; rfl, fun c hc => ?_, h3⟩
      rcases List.mem_cons.1 hc with rfl | hc
      · rw [AO9 qz5]; omega
      · exact h2 c hc
theorem BI5 (n : Nat) (s : Str) : vpre (numB n ++ s) = some (numB n) := by
  obtain ⟨p, b, h1, h2, h3⟩ := AP1 n
  rw [h1, List.append_assoc]
  exact Aj5 h2 h3
theorem BI6 (n : Nat) : vval (numB n) = n := by
  induction n using Nat.strongRecOn with
  | _ n ih =>
    rcases Nat.lt_or_ge n 128 with h | h
    · rw [p9 h]; show (UInt8.ofNat n).toNat % 128 + 128 * 0 = n; rw [AO9 qz5]; omega
    · rw [AC6 h]
      show (UInt8.ofNat (n % 128 + 128)).toNat % 128 + 128 * vval (numB (n / 128)) = n
      rw [AO9 qz5, ih (n / 128) qz5]; omega
theorem AC7 (n : Nat) : 1 ≤ (numB n).length := by
  obtain ⟨p, b, h1, _⟩ := AP1 n
  rw [h1]; simp
theorem J9 {k : Nat} : ∀ {n : Nat}, n < 128 ^ k → 1 ≤ k → (numB n).length ≤ k := by
  induction k with
  | zero => intro n _ h; omega
  | succ k ih =>
    intro n h _
    rcases Nat.lt_or_ge n 128 with h1 | h1
    · rw [p9 h1]; simp
    · rw [AC6 h1, E6]
      have hk : 1 ≤ k := by
        rcases Nat.eq_zero_or_pos k with h0 | h0
        · subst h0; simp at h; omega
        · exact h0
      have := ih (n := n / 128) (by rw [Nat.pow_succ] at h; omega) hk
      omega
theorem Q9 {n : Nat} (h : n ≤ 1000000000) : (numB n).length ≤ 5 := J9 (k := 5) qz5 B5
theorem i0 {n : Nat} (h : n ≤ 1000000000) (s : Str) : numP (numB n ++ s) = some (n, (numB n).length) := by
  unfold numP
  rw [BI5]
  simp only [BI6]
  rw [if_pos ⟨h, trivial⟩]
theorem AK5 : ∀ {s p : Str}, vpre s = some p → ∃ q b t, p = q ++ [b] ∧ s = p ++ t ∧ c7 q ∧ b.toNat < 128
  | [], p, h => by cases h
  | c :: s, p, h => by
    unfold vpre at h
    split at h
    · rename_i hc
      injection h with h; subst h
      exact ⟨[], c, s, rfl, rfl, fun b hb => by simp at hb, hc⟩
    · rename_i hc
      cases hs : vpre s with
      | none => rw [hs] at h; cases h
      | some p' =>
        rw [hs] at h
        injection h with h; subst h
        obtain ⟨q, b, t, h1, h2, h3, h4⟩ := AK5 hs
        refine ⟨c :: q, b, t, by rw [h1]; rfl, by rw [h2]; rfl, fun x hx => ?_, h4⟩
        rcases List.mem_cons.1 hx with rfl | hx
        · omega
        · exact h3 x hx
theorem AE9 {s : Str} {n k : Nat} (h : numP s = some (n, k)) : n ≤ 1000000000 ∧ k = (numB n).length ∧ ∃ t, s = numB n ++ t := by
  unfold numP at h
  cases hs : vpre s with
  | none => rw [hs] at h; cases h
  | some p =>
    rw [hs] at h
    simp only at h
    split at h
    · rename_i hh
      injection h with h
      injection h with h1 h2
      obtain ⟨q, b, t, g1, g2, _⟩ := AK5 hs
      subst h1
      exact ⟨hh.1, by rw [hh.2, h2], t, by rw [hh.2]; exact g2⟩
    · cases h
theorem AY2 {s : Str} {n k : Nat} (h : numP s = some (n, k)) : k ≤ s.length ∧ 1 ≤ k ∧ k ≤ 5 := by
  obtain ⟨h1, h2, t, h3⟩ := AE9 h
  have := AC7 n
  have := Q9 h1
  rw [h3, D5]; omega
theorem AY3 {p : Str} (h : c7 p) : numP p = none := by unfold numP; rw [BI4 h]
theorem AP2 {p : Str} {b : UInt8} {s : Str} (h : c7 p) (hb : b.toNat < 128) : numP (p ++ b :: s) = if vval (p ++ [b]) ≤ 1000000000 ∧ numB (vval (p ++ [b])) = p ++ [b] then some (vval (p ++ [b]), p.length + 1) else none := by
  unfold numP; rw [Aj5 h hb]
  simp only [D5, E6, I4, Nat.zero_add]
theorem BD0 {p : Str} {s : Str} (h : c7 p) (hv : 1000000000 < vval p) : numP (p ++ s) = none := by
  unfold numP
  rw [y9 h]
  cases vpre s with
  | none => rfl
  | some q =>
    simp only [Option.map_some]
    rw [if_neg]
    intro hc
    have := hc.1
    rw [AY1] at this
    omega
theorem Aj6 {p : Str} {s : Str} (h : c7 p) (hl : 5 ≤ p.length) : numP (p ++ s) = none := by
  unfold numP
  rw [y9 h]
  cases hs : vpre s with
  | none => rfl
  | some q =>
    simp only [Option.map_some]
    rw [if_neg]
    intro hc
    obtain ⟨q', b, t, h1, _⟩ := AK5 hs
    have h2 := Q9 hc.1
    rw [hc.2, h1] at h2
    simp only [D5, E6, I4] at h2
    omega
theorem cont_ne {p : Str} (h : c7 p) (n : Nat) : numB n ≠ p := by
  intro hc
  obtain ⟨q, b, h1, _, h3⟩ := AP1 n
  have := h b (by rw [← hc, h1]; simp)
  omega
theorem AP3 {p : Str} {b : UInt8} (h : c7 p) (hb : 128 ≤ b.toNat) : c7 (p ++ [b]) := fun c hc => by
  rcases List.mem_append.1 hc with hc | hc
  · exact h c hc
  · rw [List.mem_singleton.1 hc]; exact hb
structure E0 where
  at' : Nat
  bad : Bool
open Go.AV in
def T8 (b : Str) (s : E0) : List AV := [AV.str b, AV.int s.at', AV.bool s.bad]
def numA (b : Str) (s : E0) : Option (Nat × Nat) := if s.bad = true then none else numP (b.drop s.at')
def M2 (b : Str) (s : E0) (x : E0 × Nat) : Prop := (s.at' ≤ x.1.at' ∧ x.1.at' ≤ b.length) ∧ x.2 ≤ 1000000000 ∧ match numA b s with
  | some (n, k) => x = (⟨s.at' + k, false⟩, n)
  | none => x.1.bad = true ∧ x.2 = 0
def textP (s : Str) : Option (Str × Nat) := match numP s with
  | none => none
  | some (n, k) => if n ≤ 60 ∧ k + n ≤ s.length then some ((s.drop k).take n, k + n) else none
def textA (b : Str) (s : E0) : Option (Str × Nat) := if s.bad = true then none else textP (b.drop s.at')
def Y6 (b : Str) (s : E0) (x : E0 × Str) : Prop := (s.at' ≤ x.1.at' ∧ x.1.at' ≤ b.length) ∧ x.2.length ≤ 60 ∧ match textA b s with
  | some (t, k) => x = (⟨s.at' + k, false⟩, t)
  | none => x.1.bad = true ∧ x.2 = []
def textB (s : Str) : Str := numB s.length ++ s
theorem v2 {t : Str} (h : t.length ≤ 60) (s : Str) : textP (textB t ++ s) = some (t, (textB t).length) := by
  unfold textP textB
  rw [List.append_assoc, i0 qz5]
  simp only [D5]
  rw [if_pos ⟨h, by omega⟩, List.drop_left, List.take_left]
theorem Ab4 {s t : Str} {k : Nat} (h : textP s = some (t, k)) : t.length ≤ 60 ∧ k = (textB t).length ∧ k ≤ s.length ∧ ∃ r, s = textB t ++ r := by
  unfold textP at h
  cases hn : numP s with
  | none => rw [hn] at h; cases h
  | some x =>
    obtain ⟨n, j⟩ := x
    rw [hn] at h
    simp only at h
    split at h
    · rename_i hh
      injection h with h
      injection h with h1 h2
      obtain ⟨g1, g2, r, g3⟩ := AE9 hn
      have hd : s.drop j = r := by rw [g3, g2, List.drop_left]
      rw [hd] at h1
      have hlr : n ≤ r.length := by rw [g3, D5] at hh; omega
      have hl : t.length = n := by rw [← h1, H2]; omega
      refine ⟨by omega, ?_, by omega, r.drop n, ?_⟩
      · unfold textB; rw [D5, hl]; omega
      · unfold textB; rw [hl, ← h1, List.append_assoc, List.take_append_drop]; exact g3
    · cases h
def textsN : Nat → Str → Option (List Str × Nat)
  | 0, _ => some ([], 0)
  | n + 1, s => match textP s with
    | none => none
    | some (t, k) => (textsN n (s.drop k)).map fun r => (t :: r.1, k + r.2)
def textsP (s : Str) : Option (List Str × Nat) := match numP s with
  | none => none
  | some (n, k) => if n ≤ 40 then (textsN n (s.drop k)).map fun r => (r.1, k + r.2) else none
def textsA (b : Str) (s : E0) : Option (List Str × Nat) := if s.bad = true then none else textsP (b.drop s.at')
def textsB (l : List Str) : Str := numB l.length ++ (l.map textB).flatten
theorem AL9 : ∀ {l : List Str} (s : Str), (∀ t ∈ l, t.length ≤ 60) → textsN l.length ((l.map textB).flatten ++ s) = some (l, (l.map textB).flatten.length)
  | [], s, _ => rfl
  | t :: l, s, h => by
    have hf : ((t :: l).map textB).flatten ++ s = textB t ++ ((l.map textB).flatten ++ s) := by rw [List.map_cons, List.flatten_cons, List.append_assoc]
    rw [hf, E6]
    unfold textsN
    rw [v2 (h t List.mem_cons_self)]
    simp only
    rw [List.drop_left, AL9 s fun x hx => h x (List.mem_cons_of_mem _ hx)]
    simp
theorem AA4 {l : List Str} (h : ∀ t ∈ l, t.length ≤ 60) (hl : l.length ≤ 40) (s : Str) : textsP (textsB l ++ s) = some (l, (textsB l).length) := by
  unfold textsP textsB
  rw [List.append_assoc, i0 qz5]
  simp only
  rw [if_pos hl, List.drop_left, AL9 s h]
  simp [D5]
theorem z4 {b : Str} {s : E0} {x : E0 × Nat} (h : M2 b s x) (hb : x.1.bad = true) : numA b s = none := by
  obtain ⟨_, _, h3⟩ := h
  cases hn : numA b s with
  | none => rfl
  | some y => obtain ⟨n, k⟩ := y; rw [hn] at h3; simp only at h3; rw [h3] at hb; cases hb
theorem c0 {b : Str} {s : E0} {x : E0 × Nat} (h : M2 b s x) (hb : x.1.bad = false) : ∃ n k, numA b s = some (n, k) ∧ x = (⟨s.at' + k, false⟩, n) := by
  obtain ⟨_, _, h3⟩ := h
  cases hn : numA b s with
  | none => rw [hn] at h3; rw [h3.1] at hb; cases hb
  | some y => obtain ⟨n, k⟩ := y; rw [hn] at h3; exact ⟨n, k, rfl, h3⟩
theorem Ab5 {b : Str} {s : E0} {x : E0 × Nat} (h : M2 b s x) (hb : x.1.bad = true) : x.2 = 0 := by
  have hn := z4 h hb
  obtain ⟨_, _, h3⟩ := h
  rw [hn] at h3; exact h3.2
theorem Au8 {b : Str} {s : E0} {x : E0 × Str} (h : Y6 b s x) (hb : x.1.bad = false) : ∃ t k, textA b s = some (t, k) ∧ x = (⟨s.at' + k, false⟩, t) := by
  obtain ⟨_, _, h3⟩ := h
  cases hn : textA b s with
  | none => rw [hn] at h3; rw [h3.1] at hb; cases hb
  | some y => obtain ⟨n, k⟩ := y; rw [hn] at h3; exact ⟨n, k, rfl, h3⟩
def U4 (b : Str) (s : E0) (t : E0) (l : List Str) : Prop := (s.at' ≤ t.at' ∧ t.at' ≤ b.length) ∧ match textsA b s with
  | some (r, k) => t = ⟨s.at' + k, false⟩ ∧ l = r
  | none => t.bad = true
def takeR (b : Str) (s : E0) (n : Nat) : E0 × Str := if (s.bad || decide ((b.length : Int) - (s.at' : Int) < (n : Int))) = true then (⟨s.at', true⟩, []) else (⟨s.at' + n, false⟩, (b.drop s.at').take n)
theorem o2 {b : Str} {s : E0} {n : Nat} (h : s.bad = true) : takeR b s n = (⟨s.at', true⟩, []) := by unfold takeR; rw [if_pos (by rw [h]; rfl)]
theorem AP4 {b : Str} {s : E0} (h : s.bad = false) (hs : s.at' ≤ b.length) : (b.drop s.at' = [] ∧ takeR b s 1 = (⟨s.at', true⟩, [])) ∨ ∃ c r, b.drop s.at' = c :: r ∧ takeR b s 1 = (⟨s.at' + 1, false⟩, [c]) := by
  have hl : (b.drop s.at').length = b.length - s.at' := List.length_drop
  unfold takeR
  rw [h, Bool.false_or]
  cases hd : b.drop s.at' with
  | nil =>
    rw [hd] at hl
    simp only [I4] at hl
    exact .inl ⟨rfl, by rw [if_pos (decide_eq_true qz5)]⟩
  | cons c r =>
    rw [hd] at hl
    simp only [E6] at hl
    exact .inr ⟨c, r, rfl, by rw [if_neg (by rw [decide_eq_true_eq]; omega)]; rfl⟩
theorem AK6 {b : Str} {s : E0} {n k : Nat} (h : numA b s = some (n, k)) (hs : s.at' ≤ b.length) : textA b s = if n ≤ 60 ∧ k + n ≤ (b.drop s.at').length then some (((b.drop s.at').drop k).take n, k + n) else none := by
  unfold numA at h
  unfold textA textP
  cases hb : s.bad with
  | true => rw [hb] at h; cases h
  | false => rw [hb] at h; simp only [Bool.false_eq_true, if_false] at h ⊢; rw [h]
theorem Ab6 {b : Str} {s : E0} (h : numA b s = none) : textA b s = none := by
  unfold numA at h
  unfold textA textP
  cases hb : s.bad with
  | true => rfl
  | false => rw [hb] at h; simp only [Bool.false_eq_true, if_false] at h ⊢; rw [h]
theorem AK7 {b : Str} {s : E0} {n k : Nat} (h : numA b s = some (n, k)) : textsA b s = if n ≤ 40 then (textsN n ((b.drop s.at').drop k)).map (fun r => (r.1, k + r.2)) else none := by
  unfold numA at h
  unfold textsA textsP
  cases hb : s.bad with
  | true => rw [hb] at h; cases h
  | false => rw [hb] at h; simp only [Bool.false_eq_true, if_false] at h ⊢; rw [h]
theorem AV3 {b : Str} {s : E0} (h : numA b s = none) : textsA b s = none := by
  unfold numA at h
  unfold textsA textsP
  cases hb : s.bad with
  | true => rfl
  | false => rw [hb] at h; simp only [Bool.false_eq_true, if_false] at h ⊢; rw [h]
def w9 (b : Str) (s : E0) (t : E0) (l : List Str) (m : Nat) : Prop := (s.at' ≤ t.at' ∧ t.at' ≤ b.length) ∧ ((t.bad = true ∧ textsA b s = none) ∨ (t.bad = false ∧ textsA b s = (textsN m (b.drop t.at')).map fun r => (l ++ r.1, (t.at' - s.at') + r.2)))
theorem AF0 {b : Str} {s t : E0} {l : List Str} (h : w9 b s t l 0) : U4 b s t l := by
  obtain ⟨h1, h2⟩ := h
  refine ⟨h1, ?_⟩
  rcases h2 with ⟨h2, h3⟩ | ⟨h2, h3⟩
  · rw [h3]; exact h2
  · rw [h3]
    show t = ⟨s.at' + ((t.at' - s.at') + 0), false⟩ ∧ l = l ++ []
    refine ⟨?_, by rw [List.append_nil]⟩
    obtain ⟨ta, tb⟩ := t
    simp only at h2 h1
    rw [h2]
    show (⟨ta, false⟩ : E0) = ⟨s.at' + ((ta - s.at') + 0), false⟩
    rw [show s.at' + ((ta - s.at') + 0) = ta by omega]
theorem AF1 {b : Str} {s t : E0} {l : List Str} {m : Nat} (h : w9 b s t l m) (hb : t.bad = true) : U4 b s t l := by
  obtain ⟨h1, h2⟩ := h
  refine ⟨h1, ?_⟩
  rcases h2 with ⟨h2, h3⟩ | ⟨h2, h3⟩
  · rw [h3]; exact h2
  · rw [h2] at hb; cases hb
theorem AB3 {b : Str} {s t : E0} {l : List Str} {m : Nat} {x : E0 × Str} (h : w9 b s t l (m + 1)) (hb : t.bad = false) (hx : Y6 b t x) : w9 b s x.1 (l ++ [x.2]) m := by
  obtain ⟨h1, h2⟩ := h
  have hxx := hx
  obtain ⟨g1, g2, g3⟩ := hx
  refine ⟨by omega, ?_⟩
  rcases h2 with ⟨h2, h3⟩ | ⟨h2, h3⟩
  · rw [h2] at hb; cases hb
  · have ht : textA b t = textP (b.drop t.at') := by unfold textA; rw [hb]; rfl
    cases hq : textP (b.drop t.at') with
    | none =>
      rw [ht, hq] at g3
      refine .inl ⟨g3.1, ?_⟩
      rw [h3]; unfold textsN; rw [hq]; rfl
    | some y =>
      obtain ⟨u, k⟩ := y
      rw [ht, hq] at g3
      simp only at g3
      subst g3
      refine .inr ⟨rfl, ?_⟩
      rw [h3]
      conv => lhs; unfold textsN
      rw [hq]
      simp only [Option.map_map, List.drop_drop]
      congr 1
      funext r
      simp only [Function.comp_apply, List.append_assoc, List.singleton_append]
      rw [show t.at' - s.at' + (k + r.2) = t.at' + k - s.at' + r.2 by omega]
theorem BI7 {p r : Str} {c : UInt8} (hcp : c7 p) (h : 1000000000 < vval (p ++ [c]) ∨ 5 ≤ p.length) : numP (p ++ c :: r) = none := by
  rcases Nat.lt_or_ge c.toNat 128 with hc | hc
  · rw [AP2 hcp hc, if_neg]
    intro hh
    rcases h with h | h
    · omega
    · have h5 := Q9 hh.1
      rw [hh.2, D5] at h5
      simp only [E6, I4] at h5
      omega
  · rcases h with h | h
    · have := BD0 (s := r) (AP3 hcp hc) h
      rwa [List.append_assoc] at this
    · exact Aj6 hcp h
theorem Af8 : ∀ (p : Str), vval p < 128 ^ p.length
  | [] => by decide
  | c :: p => by
    have := Af8 p
    show c.toNat % 128 + 128 * vval p < 128 ^ (p.length + 1)
    rw [Nat.pow_succ]; omega
def oneR (b : Str) (s : E0) : E0 × Nat := if (s.bad || decide ((b.length : Int) ≤ (s.at' : Int))) = true then (⟨s.at', true⟩, 0) else (⟨s.at' + 1, false⟩, (b.getD s.at' 0).toNat)
theorem oneR_bad {b : Str} {s : E0} (h : s.bad = true) : oneR b s = (⟨s.at', true⟩, 0) := by unfold oneR; rw [if_pos (by rw [h]; rfl)]
theorem Aq2 {b : Str} {s : E0} (h : s.bad = false) (hs : s.at' ≤ b.length) : (b.drop s.at' = [] ∧ oneR b s = (⟨s.at', true⟩, 0)) ∨ ∃ c r, b.drop s.at' = c :: r ∧ oneR b s = (⟨s.at' + 1, false⟩, c.toNat) := by
  have hl : (b.drop s.at').length = b.length - s.at' := List.length_drop
  unfold oneR
  rw [h, Bool.false_or]
  cases hd : b.drop s.at' with
  | nil =>
    rw [hd] at hl
    simp only [I4] at hl
    exact .inl ⟨rfl, by rw [if_pos (decide_eq_true qz5)]⟩
  | cons c r =>
    rw [hd] at hl
    simp only [E6] at hl
    refine .inr ⟨c, r, rfl, ?_⟩
    rw [if_neg (by rw [decide_eq_true_eq]; omega)]
    have : b[s.at']? = some c := by
      have h9 : (b.drop s.at')[0]? = some c := by rw [hd]; rfl
      rwa [List.getElem?_drop, Nat.add_zero] at h9
    rw [List.getD_eq_getElem?_getD, this]; rfl
theorem AV4 {b : Str} {s : E0} {x : E0 × Nat} (h : M2 b s x) (hn : x.2 ≤ 40) : w9 b s x.1 [] x.2 := by
  refine ⟨h.1, ?_⟩
  cases hb : x.1.bad with
  | true => exact .inl ⟨rfl, AV3 (z4 h hb)⟩
  | false =>
    obtain ⟨n, k, h1, h2⟩ := c0 h hb
    subst h2
    refine .inr ⟨rfl, ?_⟩
    rw [AK7 h1, if_pos hn, List.drop_drop]
    simp only [List.nil_append, Nat.add_sub_cancel_left]
theorem Aj7 {b : Str} {s : E0} {x : E0 × Nat} (h : M2 b s x) (hn : 40 < x.2) (m : Nat) : w9 b s ⟨x.1.at', true⟩ [] m := by
  refine ⟨h.1, .inl ⟨rfl, ?_⟩⟩
  cases hb : x.1.bad with
  | true => have := Ab5 h hb; omega
  | false =>
    obtain ⟨n, k, h1, h2⟩ := c0 h hb
    subst h2
    rw [AK7 h1, if_neg (by simp only at hn; omega)]
theorem Au9 {b : Str} {s t : E0} {l : List Str} (h : U4 b s t l) (hb : t.bad = true) : textsA b s = none := by
  obtain ⟨_, h2⟩ := h
  cases hn : textsA b s with
  | none => rfl
  | some y => obtain ⟨n, k⟩ := y; rw [hn] at h2; simp only at h2; rw [h2.1] at hb; cases hb
theorem AP5 {b : Str} {s t : E0} {l : List Str} (h : U4 b s t l) (hb : t.bad = false) : ∃ k, textsA b s = some (l, k) ∧ t = ⟨s.at' + k, false⟩ := by
  obtain ⟨_, h2⟩ := h
  cases hn : textsA b s with
  | none => rw [hn] at h2; rw [h2] at hb; cases hb
  | some y => obtain ⟨n, k⟩ := y; rw [hn] at h2; simp only at h2; rw [h2.2]; exact ⟨k, rfl, h2.1⟩
def placeB (b : Str) (at' : Int) : Bool := decide ((b.length : Int) ≤ 6000) && within at' 0 b.length
def readNumR (b : Str) (at' : Int) : Int × Int × Bool := if (!placeB b at') = true then (0, 0, false) else match numP (b.drop at'.toNat) with
  | some (n, k) => ((n : Int), at' + k, true)
  | none => (0, 0, false)
theorem BD1 {b : Str} {at' : Int} (h : placeB b at' = true) : b.length ≤ 6000 ∧ 0 ≤ at' ∧ at' ≤ b.length := by
  unfold placeB at h
  simp only [Bool.and_eq_true, decide_eq_true_eq] at h
  have h2 := h.2
  unfold within at h2
  simp at h2
  omega
theorem Av0 {b : Str} {k : Nat} (h : placeB b k = true) : readNumR b k = match numP (b.drop k) with
  | some (n, j) => ((n : Int), (k : Int) + j, true)
  | none => (0, 0, false) := by unfold readNumR; rw [h]; rfl
theorem textOk_s {b : Str} {s : E0} {x : E0 × Nat} (hs : s.at' ≤ b.length) (h : M2 b s x) :
    (((x.1.bad || decide ((60 : Int) < (x.2 : Int))) || decide ((b.length : Int) < (x.1.at' : Int) + (x.2 : Int))) = true → Y6 b s (⟨x.1.at', true⟩, [])) ∧
    (((x.1.bad || decide ((60 : Int) < (x.2 : Int))) || decide ((b.length : Int) < (x.1.at' : Int) + (x.2 : Int))) = false → Y6 b s (⟨x.1.at' + x.2, false⟩, (b.drop x.1.at').take x.2) ∧ x.1.bad = false ∧ x.1.at' + x.2 ≤ b.length ∧ x.2 ≤ 60) := by
  have h0 := h.1
  cases hb : x.1.bad with
  | true =>
    refine ⟨fun _ => ⟨h0, Nat.zero_le _, by rw [Ab6 (z4 h hb)]; exact ⟨rfl, rfl⟩⟩, fun hc => by simp at hc⟩
  | false =>
    obtain ⟨n, k, h1, h2⟩ := c0 h hb
    subst h2
    simp only at h0 ⊢
    have hl : (b.drop s.at').length = b.length - s.at' := List.length_drop
    have ht := AK6 h1 hs
    refine ⟨fun hc => ⟨h0, Nat.zero_le _, ?_⟩, fun hc => ?_⟩
    · rw [if_neg] at ht
      · rw [ht]; exact ⟨rfl, rfl⟩
      · intro hh
        simp only [Bool.false_or, Bool.or_eq_true, decide_eq_true_eq] at hc
        omega
    · simp only [Bool.false_or, Bool.or_eq_false_iff, decide_eq_false_iff_not] at hc
      rw [if_pos qz5, List.drop_drop] at ht
      refine ⟨⟨⟨by show s.at' ≤ s.at' + k + n; omega, by show s.at' + k + n ≤ b.length; omega⟩, ?_, ?_⟩, by trivial, by omega, by omega⟩
      · show ((b.drop (s.at' + k)).take n).length ≤ 60
        rw [H2]; omega
      · rw [ht]
        show ((⟨s.at' + k + n, false⟩ : E0), (b.drop (s.at' + k)).take n) = (⟨s.at' + (k + n), false⟩, (b.drop (s.at' + k)).take n)
        rw [Nat.add_assoc]
theorem AY4 {b : Str} {k : Nat} : numA b ⟨k, false⟩ = numP (b.drop k) := rfl
def AU4 (n : Nat) (b : UInt8) : Nat := (31 * n + b.toNat + 1) % 16000057
def sumB (s : Str) : Nat := s.foldl AU4 7
theorem sum_lt (s : Str) : ∀ n, n < 16000057 → s.foldl AU4 n < 16000057 := by
  induction s with
  | nil => intro n h; exact h
  | cons b s ih => intro n _; exact ih _ (Nat.mod_lt _ B5)
theorem AT3 (s : Str) : sumB s < 16000057 := sum_lt s 7 B5
theorem BI8 {s : Str} {i : Nat} {b : UInt8} (h : s[i]? = some b) : sumB (s.take (i + 1)) = AU4 (sumB (s.take i)) b := by
  unfold sumB; rw [List.take_add_one, h, List.foldl_append]; rfl
def AD8 (n : Nat) : Str := [UInt8.ofNat (n / 65536), UInt8.ofNat (n / 256 % 256), UInt8.ofNat (n % 256)]
def L9 (s : Str) : Str := s ++ AD8 (sumB s)
def frameB (s : Str) : Str := numB s.length ++ L9 s
theorem X8 (s : Str) : (L9 s).length = s.length + 3 := by unfold L9 AD8; simp
theorem Q4 (s : Str) : (frameB s).length = (numB s.length).length + s.length + 3 := by unfold frameB; rw [D5, X8]; omega
def frameP (s : Str) : Option (Str × Nat) := match numP s with
  | none => none
  | some (n, k) => if n ≤ 700 ∧ k + n + 3 ≤ s.length ∧ L9 ((s.drop k).take n) = (s.drop k).take (n + 3) then some ((s.drop k).take n, k + n + 3) else none
theorem Al9 {t : Str} (h : t.length ≤ 700) (s : Str) : frameP (frameB t ++ s) = some (t, (frameB t).length) := by
  unfold frameP
  rw [Q4]
  unfold frameB
  rw [List.append_assoc, i0 qz5]
  simp only [D5, X8]
  have h1 : (L9 t ++ s).take t.length = t := by unfold L9; rw [List.append_assoc, List.take_left]
  have h2 : (L9 t ++ s).take (t.length + 3) = L9 t := by rw [← X8, List.take_left]
  rw [List.drop_left, h1, h2, if_pos ⟨h, by omega, rfl⟩]
theorem v7 {s t : Str} {k : Nat} (h : frameP s = some (t, k)) : t.length ≤ 700 ∧ k = (frameB t).length ∧ k ≤ s.length ∧ 4 ≤ k ∧ ∃ r, s = frameB t ++ r := by
  unfold frameP at h
  cases hn : numP s with
  | none => rw [hn] at h; cases h
  | some x =>
    obtain ⟨n, j⟩ := x
    rw [hn] at h
    simp only at h
    split at h
    · rename_i hh
      injection h with h
      injection h with h1 h2
      obtain ⟨g1, g2, r, g3⟩ := AE9 hn
      have hp := AC7 n
      have hd : s.drop j = r := by rw [g3, g2, List.drop_left]
      rw [hd] at h1 hh
      have hlr : n + 3 ≤ r.length := by have := hh.2.1; rw [g3, D5] at this; omega
      have hl : t.length = n := by rw [← h1, H2]; omega
      refine ⟨by omega, ?_, by omega, by omega, r.drop (n + 3), ?_⟩
      · rw [Q4, hl]; omega
      · unfold frameB
        rw [hl, List.append_assoc, ← h1, hh.2.2, List.take_append_drop]; exact g3
    · cases h
def framesF : Nat → Str → List Str × Nat
  | 0, _ => ([], 0)
  | f + 1, s => match frameP s with
    | none => ([], 0)
    | some (t, k) => (t :: (framesF f (s.drop k)).1, k + (framesF f (s.drop k)).2)
def framesB (s : Str) : List Str × Nat := framesF (s.length + 1) s
theorem AP6 : ∀ {f g : Nat} {s : Str}, s.length < f → s.length < g → framesF f s = framesF g s
  | 0, _, _, h, _ => by omega
  | _ + 1, 0, _, _, h => by omega
  | f + 1, g + 1, s, h1, h2 => by
    unfold framesF
    cases hp : frameP s with
    | none => rfl
    | some x =>
      obtain ⟨t, k⟩ := x
      obtain ⟨_, _, hk, hk4, _⟩ := v7 hp
      have hl : (s.drop k).length = s.length - k := List.length_drop
      simp only
      rw [AP6 (f := f) (g := g) (s := s.drop k) qz5 qz5]
theorem AC8 {s : Str} (h : frameP s = none) : framesB s = ([], 0) := by unfold framesB framesF; rw [h]
theorem AC9 {s t : Str} {k : Nat} (h : frameP s = some (t, k)) : framesB s = (t :: (framesB (s.drop k)).1, k + (framesB (s.drop k)).2) := by
  obtain ⟨_, _, hk, hk4, _⟩ := v7 h
  have hl : (s.drop k).length = s.length - k := List.length_drop
  have h1 : framesB s = (t :: (framesF s.length (s.drop k)).1, k + (framesF s.length (s.drop k)).2) := by
    unfold framesB; conv => lhs; unfold framesF
    rw [h]
  rw [h1]
  unfold framesB
  rw [AP6 (f := s.length) (g := (s.drop k).length + 1) qz5 qz5]
theorem AM0 : ∀ (f : Nat) (s : Str), s.length < f → (∀ t ∈ (framesB s).1, t.length ≤ 700) ∧ (framesB s).2 ≤ s.length ∧ s.take (framesB s).2 = ((framesB s).1.map frameB).flatten
  | 0, s, h => by omega
  | f + 1, s, h => by
    cases hp : frameP s with
    | none => rw [AC8 hp]; exact ⟨fun t ht => by simp at ht, Nat.zero_le _, rfl⟩
    | some x =>
      obtain ⟨t, k⟩ := x
      obtain ⟨h1, hk0, hk, hk4, r, hr⟩ := v7 hp
      have hl : (s.drop k).length = s.length - k := List.length_drop
      have hd : s.drop k = r := by rw [hr, hk0, List.drop_left]
      obtain ⟨i1, i2, i3⟩ := AM0 f (s.drop k) qz5
      rw [AC9 hp]
      refine ⟨fun x hx => ?_, by show k + _ ≤ _; omega, ?_⟩
      · rcases List.mem_cons.1 hx with rfl | hx
        · exact h1
        · exact i1 x hx
      · show s.take (k + (framesB (s.drop k)).2) = frameB t ++ ((framesB (s.drop k)).1.map frameB).flatten
        rw [← i3, List.take_add, show s.take k = frameB t by rw [hr, hk0, List.take_left]]
theorem AV5 : ∀ {l : List Str} (s : Str), (∀ t ∈ l, t.length ≤ 700) → framesB ((l.map frameB).flatten ++ s) = (l ++ (framesB s).1, ((l.map frameB).flatten).length + (framesB s).2)
  | [], s, _ => by simp
  | t :: l, s, h => by
    have hf : frameP (((t :: l).map frameB).flatten ++ s) = some (t, (frameB t).length) := by
      rw [List.map_cons, List.flatten_cons, List.append_assoc]
      exact Al9 (h t List.mem_cons_self) _
    rw [AC9 hf]
    have hd : (((t :: l).map frameB).flatten ++ s).drop (frameB t).length = (l.map frameB).flatten ++ s := by
      rw [List.map_cons, List.flatten_cons, List.append_assoc, List.drop_left]
    rw [hd, AV5 s fun x hx => h x (List.mem_cons_of_mem _ hx)]
    simp only [List.map_cons, List.flatten_cons, D5, AZ9]
    rw [Nat.add_assoc]
theorem Av1 : framesB [] = ([], 0) := AC8 rfl
theorem Ab7 (l : List Str) (h : ∀ t ∈ l, t.length ≤ 700) : framesB (l.map frameB).flatten = (l, ((l.map frameB).flatten).length) := by
  have := AV5 [] h
  rwa [List.append_nil, Av1, List.append_nil] at this
end Go.M
namespace Go.M
open Go.AV
def isTxnR (n : Int) : Bool := within n 1 60
def bareR (r : E8) : Bool := ((r.Lead == 0) && ((r.Reads.length : Int) == 0)) && ((r.Writes.length : Int) == 0)
def Ao4 (r : E8) : Bool := (((((((isTxnR r.Txn && isTime r.Time) && within r.Lead 0 3) && decide ((r.Reads.length : Int) ≤ 8)) && areRising r.Reads) && decide ((r.Writes.length : Int) ≤ 8)) && goodWrites r.Writes) && decide (0 < (r.Reads.length : Int) + (r.Writes.length : Int))) && !r.Yes
def Ao5 (r : E8) : Bool := (bareR r && isTxnR r.Txn) && ((r.Yes && isTime r.Time) || (!r.Yes && (r.Time == 0)))
def Ao6 (r : E8) : Bool := ((bareR r && (r.Txn == 0)) && isTime r.Time) && !r.Yes
def goodRec (r : E8) : Bool := if r.Kind = 1 then Ao4 r else if r.Kind = 2 ∨ r.Kind = 3 then Ao5 r else if r.Kind = 4 then Ao6 r else false
def l4Keys (l : List Str) : Bool := (l.all l3Key && adj Op.bytesLess l) && decide ((l.length : Int) ≤ 8)
def AA8 (r : E8) : Bool := (r.Kind != 1) && ((r.Lead != 0) || decide (0 < (r.Reads.length : Int) + (r.Writes.length : Int)))
def l4G1 (r : E8) : Bool := ((((((within r.Txn 1 60 && within r.Time 1 100000) && within r.Lead 0 3) && l4Keys r.Reads) && l3Writes r.Writes) && within (r.Writes.length : Int) 0 8) && decide (0 < (r.Reads.length : Int) + (r.Writes.length : Int))) && !r.Yes
def l4G2 (r : E8) : Bool := within r.Txn 1 60 && ((r.Yes && within r.Time 1 100000) || (!r.Yes && (r.Time == 0)))
def l4G4 (r : E8) : Bool := (((r.Kind == 4) && (r.Txn == 0)) && within r.Time 1 100000) && !r.Yes
def l4Good (r : E8) : Bool := if AA8 r = true then false else if r.Kind = 1 then l4G1 r else if r.Kind = 2 ∨ r.Kind = 3 then l4G2 r else l4G4 r
theorem bare_odd {r : E8} (h : r.Kind ≠ 1) : bareR r = !AA8 r := by
  have hk : (r.Kind != 1) = true := by simpa using h
  unfold bareR AA8
  rw [hk, Bool.true_and, Bool.eq_iff_iff]
  simp only [Bool.and_eq_true, beq_iff_eq, Bool.not_eq_true', Bool.or_eq_false_iff, bne_eq_false_iff_eq, decide_eq_false_iff_not]
  omega
theorem keys_eq (l : List Str) : (decide ((l.length : Int) ≤ 8) && areRising l) = l4Keys l := by
  unfold areRising l4Keys
  rw [show l.all goodKey = l.all l3Key by congr 1; funext s; rw [AK4]]
  rw [Bool.and_comm]
theorem V4 (r : E8) : goodRec r = l4Good r := by
  unfold goodRec l4Good
  by_cases h1 : r.Kind = 1
  · have ho : AA8 r = false := by unfold AA8; rw [h1]; rfl
    rw [if_pos h1, ho, if_neg B5, if_pos h1]
    unfold Ao4 l4G1
    rw [← keys_eq, ← AL8]
    have hw : within (r.Writes.length : Int) 0 8 = decide ((r.Writes.length : Int) ≤ 8) := by unfold within; simp
    rw [hw]
    unfold isTxnR isTime
    cases within r.Txn 1 60 <;> cases within r.Time 1 100000 <;> cases within r.Lead 0 3 <;> cases decide ((r.Reads.length : Int) ≤ 8) <;> cases areRising r.Reads <;> cases decide ((r.Writes.length : Int) ≤ 8) <;> cases goodWrites r.Writes <;> simp
  · have hb := bare_odd h1
    rw [if_neg h1, if_neg h1]
    by_cases h2 : r.Kind = 2 ∨ r.Kind = 3
    · rw [if_pos h2, if_pos h2]
      unfold Ao5 l4G2
      rw [hb]
      cases AA8 r <;> simp [isTxnR, isTime]
    · rw [if_neg h2, if_neg h2]
      unfold l4G4
      by_cases h4 : r.Kind = 4
      · rw [if_pos h4]
        unfold Ao6
        rw [hb, h4]
        cases AA8 r <;> simp [isTime]
      · rw [if_neg h4]
        have e4 : (r.Kind == 4) = false := by simpa using h4
        rw [e4]; cases AA8 r <;> simp
structure GoodR (r : E8) : Prop where
  kind : 1 ≤ r.Kind ∧ r.Kind ≤ 4
  txn : 0 ≤ r.Txn ∧ r.Txn ≤ 60
  time : 0 ≤ r.Time ∧ r.Time ≤ 100000
  lead : 0 ≤ r.Lead ∧ r.Lead ≤ 3
  reads : r.Reads.length ≤ 8 ∧ ∀ s ∈ r.Reads, l3Key s = true
  writes : r.Writes.length ≤ 8 ∧ ∀ w ∈ r.Writes, l3Key w.Key = true ∧ l3Val w.Val = true ∧ (w.Gone = true → w.Val = [])
theorem Aj8 {r : E8} (h : bareR r = true) : r.Lead = 0 ∧ r.Reads = [] ∧ r.Writes = [] := by
  unfold bareR at h
  simp only [Bool.and_eq_true, beq_iff_eq] at h
  exact ⟨h.1.1, List.eq_nil_of_length_eq_zero qz5, List.eq_nil_of_length_eq_zero qz5⟩
theorem Z0 {r : E8} (h : goodRec r = true) : GoodR r := by
  unfold goodRec at h
  split at h
  · rename_i hk
    unfold Ao4 isTxnR isTime within at h
    simp only [Bool.and_eq_true, decide_eq_true_eq] at h
    obtain ⟨⟨⟨⟨⟨⟨⟨⟨h1, h2⟩, h3⟩, h4⟩, h5⟩, h6⟩, h7⟩, _⟩, _⟩ := h
    rw [AL8] at h7
    unfold l3Writes at h7
    unfold areRising at h5
    simp only [Bool.and_eq_true, List.all_eq_true] at h5 h7
    refine ⟨by omega, by omega, by omega, by omega, ⟨by omega, fun s hs => by rw [← AK4]; exact h5.1 s hs⟩, ⟨by omega, fun w hw => ?_⟩⟩
    have := h7.1.1 w hw
    unfold w8 l3Write at this
    simp only [Bool.and_eq_true, Bool.or_eq_true, Bool.not_eq_true'] at this
    exact ⟨this.1.1, this.1.2, fun e => by rcases this.2 with g | g; rw [e] at g; cases g; simpa using g⟩
  · split at h
    · rename_i hk
      unfold Ao5 isTxnR isTime within at h
      simp only [Bool.and_eq_true, Bool.or_eq_true, decide_eq_true_eq, beq_iff_eq, Bool.not_eq_true'] at h
      obtain ⟨⟨h1, h2⟩, h3⟩ := h
      obtain ⟨l1, l2, l3⟩ := Aj8 h1
      refine ⟨by omega, by omega, by omega, by omega, by rw [l2]; exact ⟨Nat.zero_le _, fun s hs => by cases hs⟩, by rw [l3]; exact ⟨Nat.zero_le _, fun s hs => by cases hs⟩⟩
    · split at h
      · rename_i hk
        unfold Ao6 isTime within at h
        simp only [Bool.and_eq_true, decide_eq_true_eq, beq_iff_eq, Bool.not_eq_true'] at h
        obtain ⟨⟨⟨h1, h2⟩, h3⟩, _⟩ := h
        obtain ⟨l1, l2, l3⟩ := Aj8 h1
        refine ⟨by omega, by omega, by omega, by omega, by rw [l2]; exact ⟨Nat.zero_le _, fun s hs => by cases hs⟩, by rw [l3]; exact ⟨Nat.zero_le _, fun s hs => by cases hs⟩⟩
      · cases h
theorem V5 {s : Str} (h : l3Key s = true) : s.length ≤ 12 := by
  unfold l3Key within at h
  simp only [Bool.and_eq_true, decide_eq_true_eq] at h
  have := h.1; omega
theorem q6 {s : Str} (h : l3Val s = true) : s.length ≤ 24 := by
  unfold l3Val at h
  simp only [Bool.and_eq_true, decide_eq_true_eq] at h
  have := h.1; omega
def flagB (b : Bool) : Str := if b = true then [1] else [0]
def writeB (w : B4) : Str := (textB w.Key ++ flagB w.Gone) ++ textB w.Val
def recHd (r : E8) : Str := (((((numB r.Kind.toNat ++ numB r.Txn.toNat) ++ numB r.Time.toNat) ++ numB r.Lead.toNat) ++ flagB r.Yes) ++ textsB r.Reads) ++ numB r.Writes.length
def writesB (l : List B4) : Str := (l.map writeB).flatten
def recIn (r : E8) : Str := recHd r ++ writesB r.Writes
def recB (r : E8) : Str := L9 (recIn r)
theorem o3 (b : Bool) : (flagB b).length = 1 := by unfold flagB; split <;> rfl
theorem AK8 {w : B4} (h : l3Key w.Key = true ∧ l3Val w.Val = true) : (writeB w).length ≤ 39 ∧ 3 ≤ (writeB w).length := by
  have h1 := V5 h.1
  have h2 := q6 h.2
  have h3 := J9 (k := 1) (n := w.Key.length) qz5 B5
  have h4 := J9 (k := 1) (n := w.Val.length) qz5 B5
  have h5 := AC7 w.Key.length
  have h6 := AC7 w.Val.length
  unfold writeB textB
  simp only [D5, o3]
  omega
theorem AG4 : ∀ {l : List B4}, (∀ w ∈ l, l3Key w.Key = true ∧ l3Val w.Val = true ∧ (w.Gone = true → w.Val = [])) → (writesB l).length ≤ 39 * l.length
  | [], _ => Nat.le_refl _
  | w :: l, h => by
    have h1 := h w List.mem_cons_self
    have h2 := (AK8 ⟨h1.1, h1.2.1⟩).1
    have h3 := AG4 (l := l) fun x hx => h x (List.mem_cons_of_mem _ hx)
    show (writeB w ++ writesB l).length ≤ _
    rw [D5, E6]; omega
theorem AG5 {l : List Str} (h : l.length ≤ 8 ∧ ∀ s ∈ l, l3Key s = true) : (textsB l).length ≤ 105 := by
  have h1 := J9 (k := 1) (n := l.length) qz5 B5
  have h2 : ∀ l : List Str, (∀ s ∈ l, l3Key s = true) → ((l.map textB).flatten).length ≤ 13 * l.length := by
    intro l
    induction l with
    | nil => intro _; simp
    | cons s l ih =>
      intro g
      have g1 := V5 (g s List.mem_cons_self)
      have g2 := ih fun x hx => g x (List.mem_cons_of_mem _ hx)
      have g3 := J9 (k := 1) (n := s.length) qz5 B5
      have g4 : (textB s).length = (numB s.length).length + s.length := by unfold textB; rw [D5]
      rw [List.map_cons, List.flatten_cons, D5, E6]
      omega
  have h3 := h2 l h.2
  unfold textsB; rw [D5]; omega
theorem AP7 {r : E8} (h : GoodR r) : (recHd r).length ≤ 120 := by
  have h1 := J9 (k := 1) (n := r.Kind.toNat) (by have := h.kind; omega) B5
  have h2 := J9 (k := 1) (n := r.Txn.toNat) (by have := h.txn; omega) B5
  have h3 := J9 (k := 3) (n := r.Time.toNat) (by have := h.time; omega) B5
  have h4 := J9 (k := 1) (n := r.Lead.toNat) (by have := h.lead; omega) B5
  have h5 := AG5 h.reads
  have h6 := J9 (k := 1) (n := r.Writes.length) (by have := h.writes.1; omega) B5
  unfold recHd
  simp only [D5, o3]; omega
theorem AP8 {r : E8} (h : GoodR r) : (recIn r).length ≤ 440 := by
  have h1 := AP7 h
  have h2 := AG4 h.writes.2
  have h3 := h.writes.1
  unfold recIn; rw [D5]; omega
theorem AY5 {r : E8} (h : GoodR r) : (recB r).length ≤ 443 := by
  have := AP8 h
  unfold recB; rw [X8]; omega
theorem AH8 {n m : Nat} {s t : Str} (hn : n ≤ 1000000000) (hm : m ≤ 1000000000) (h : numB n ++ s = numB m ++ t) : n = m ∧ s = t := by
  have h1 := i0 hn s
  rw [h, i0 hm t] at h1
  injection h1 with h1; injection h1 with h1 _
  subst h1
  exact ⟨rfl, List.append_cancel_left h⟩
theorem Aq3 {a b : Bool} {s t : Str} (h : flagB a ++ s = flagB b ++ t) : a = b ∧ s = t := by
  cases a <;> cases b <;> simp [flagB] at h <;> simp [h]
theorem Aq4 {a b s t : Str} (ha : a.length ≤ 60) (hb : b.length ≤ 60) (h : textB a ++ s = textB b ++ t) : a = b ∧ s = t := by
  have h1 := v2 ha s
  rw [h, v2 hb t] at h1
  injection h1 with h1; injection h1 with h1 _
  subst h1
  exact ⟨rfl, List.append_cancel_left h⟩
theorem BI9 {a b : List Str} {s t : Str} (ha : (∀ x ∈ a, x.length ≤ 60) ∧ a.length ≤ 40) (hb : (∀ x ∈ b, x.length ≤ 60) ∧ b.length ≤ 40) (h : textsB a ++ s = textsB b ++ t) : a = b ∧ s = t := by
  have h1 := AA4 ha.1 ha.2 s
  rw [h, AA4 hb.1 hb.2 t] at h1
  injection h1 with h1; injection h1 with h1 _
  subst h1
  exact ⟨rfl, List.append_cancel_left h⟩
theorem Ab8 : ∀ {a b : List B4}, a.length = b.length → (∀ w ∈ a, w.Key.length ≤ 60 ∧ w.Val.length ≤ 60) → (∀ w ∈ b, w.Key.length ≤ 60 ∧ w.Val.length ≤ 60) → writesB a = writesB b → a = b
  | [], [], _, _, _, _ => rfl
  | [], _ :: _, h, _, _, _ => by simp at h
  | _ :: _, [], h, _, _, _ => by simp at h
  | x :: a, y :: b, hl, ha, hb, h => by
    have h0 : writeB x ++ writesB a = writeB y ++ writesB b := h
    unfold writeB at h0
    simp only [List.append_assoc] at h0
    obtain ⟨e1, h1⟩ := Aq4 (ha x List.mem_cons_self).1 (hb y List.mem_cons_self).1 h0
    obtain ⟨e2, h2⟩ := Aq3 h1
    obtain ⟨e3, h3⟩ := Aq4 (ha x List.mem_cons_self).2 (hb y List.mem_cons_self).2 h2
    have e4 := Ab8 (by simpa using hl) (fun w hw => ha w (List.mem_cons_of_mem _ hw)) (fun w hw => hb w (List.mem_cons_of_mem _ hw)) h3
    rw [e4]
    congr 1
    cases x; cases y
    simp_all
theorem AF2 {r : E8} (h : GoodR r) : (∀ x ∈ r.Reads, x.length ≤ 60) ∧ r.Reads.length ≤ 40 := ⟨fun x hx => by have := V5 (h.reads.2 x hx); omega, by have := h.reads.1; omega⟩
theorem AT4 {r : E8} (h : GoodR r) : ∀ w ∈ r.Writes, w.Key.length ≤ 60 ∧ w.Val.length ≤ 60 := fun w hw => by
  have := h.writes.2 w hw
  have h1 := V5 this.1
  have h2 := q6 this.2.1
  omega
theorem BJ0 {a b : E8} (ha : GoodR a) (hb : GoodR b) (h : recIn a = recIn b) : a = b := by
  unfold recIn recHd at h
  simp only [List.append_assoc] at h
  have a1 := ha.kind; have a2 := ha.txn; have a3 := ha.time; have a4 := ha.lead; have a5 := ha.writes.1
  have b1 := hb.kind; have b2 := hb.txn; have b3 := hb.time; have b4 := hb.lead; have b5 := hb.writes.1
  obtain ⟨e1, h⟩ := AH8 qz5 qz5 h
  obtain ⟨e2, h⟩ := AH8 qz5 qz5 h
  obtain ⟨e3, h⟩ := AH8 qz5 qz5 h
  obtain ⟨e4, h⟩ := AH8 qz5 qz5 h
  obtain ⟨e5, h⟩ := Aq3 h
  obtain ⟨e6, h⟩ := BI9 (AF2 ha) (AF2 hb) h
  obtain ⟨e7, h⟩ := AH8 qz5 qz5 h
  have e8 := Ab8 e7 (AT4 ha) (AT4 hb) h
  cases a; cases b
  dsimp only at *
  have := (show _ = _ from e5); have := e6; have := e8
  simp only [E8.mk.injEq]
  exact ⟨by omega, by omega, by omega, by omega, e6, e8, e5⟩
theorem seal_inj {s t : Str} (h : L9 s = L9 t) : s = t := by
  have hl := congrArg List.length h
  rw [X8, X8] at hl
  have h1 := congrArg (List.take s.length) h
  unfold L9 at h1
  rw [List.take_left, show s.length = t.length by omega, List.take_left] at h1
  exact h1
theorem recB_inj {a b : E8} (ha : goodRec a = true) (hb : goodRec b = true) (h : recB a = recB b) : a = b := BJ0 (Z0 ha) (Z0 hb) (seal_inj h)
def V2 : E8 := ⟨0, 0, 0, 0, [], [], false⟩
open Classical in
noncomputable def readRecR (b : Str) : E8 × Bool := if h : ∃ r, goodRec r = true ∧ recB r = b then (Classical.choose h, true) else (V2, false)
theorem AG6 {r : E8} (h : goodRec r = true) : readRecR (recB r) = (r, true) := by
  have hx : ∃ q, goodRec q = true ∧ recB q = recB r := ⟨r, h, rfl⟩
  unfold readRecR
  rw [dif_pos hx]
  have h2 := Classical.choose_spec hx
  rw [recB_inj h2.1 h h2.2]
theorem AG7 {b : Str} (h : ¬ (goodRec (readRecR b).1 = true ∧ recB (readRecR b).1 = b)) : readRecR b = (V2, false) := by
  unfold readRecR
  by_cases hx : ∃ r, goodRec r = true ∧ recB r = b
  · exfalso; apply h
    unfold readRecR
    rw [dif_pos hx]
    exact Classical.choose_spec hx
  · rw [dif_neg hx]
theorem Af9 (b : Str) : readRecR b = (V2, false) ∨ ∃ r, readRecR b = (r, true) ∧ goodRec r = true ∧ recB r = b := by
  unfold readRecR
  by_cases hx : ∃ r, goodRec r = true ∧ recB r = b
  · rw [dif_pos hx]; exact .inr ⟨_, rfl, Classical.choose_spec hx⟩
  · rw [dif_neg hx]; exact .inl rfl
theorem AP9 {l : List B4} {i : Nat} {w : B4} (h : l[i]? = some w) : writesB (l.take (i + 1)) = writesB (l.take i) ++ writeB w := by
  unfold writesB
  rw [List.take_add_one, h]; simp
theorem q7 {l : List B4} (h : l.length ≤ 8 ∧ ∀ w ∈ l, l3Key w.Key = true ∧ l3Val w.Val = true ∧ (w.Gone = true → w.Val = [])) (i : Nat) : (writesB (l.take i)).length ≤ 312 := by
  have h1 := AG4 (l := l.take i) fun w hw => h.2 w (List.mem_of_mem_take hw)
  have h2 : (l.take i).length ≤ 8 := by rw [H2]; omega
  have : 39 * (l.take i).length ≤ 39 * 8 := Nat.mul_le_mul_left _ h2
  omega
def m1 (b : Str) : Bool := within (b.length : Int) 3 6000 && (L9 (b.take (b.length - 3)) == b)
def openR (b : Str) : Str × Bool := if m1 b = true then (b.take (b.length - 3), true) else ([], false)
theorem AV6 (b : Str) : openR b = ([], false) ∨ (openR b = (b.take (b.length - 3), true) ∧ b.length ≤ 6000 ∧ L9 (b.take (b.length - 3)) = b) := by
  unfold openR
  split
  · rename_i h
    unfold m1 within at h
    simp at h
    exact .inr ⟨rfl, by omega, h.2⟩
  · exact .inl rfl
theorem Ab9 {s : Str} (h : s.length ≤ 5997) : openR (L9 s) = (s, true) := by
  have hl := X8 s
  have ht : (L9 s).take ((L9 s).length - 3) = s := by
    rw [hl, Nat.add_sub_cancel]; unfold L9; exact List.take_left
  unfold openR
  rw [ht, if_pos]
  unfold m1 within
  rw [ht]
  simp; omega
def AtS (b : Str) (s : E0) (rest : Str) : Prop := s.bad = false ∧ b.drop s.at' = rest
theorem l7 {b : Str} {s : E0} {x : E0 × Nat} {n : Nat} {t : Str} (h : AtS b s (numB n ++ t)) (hn : n ≤ 1000000000) (hx : M2 b s x) : AtS b x.1 t ∧ x.2 = n := by
  have e : numA b s = some (n, (numB n).length) := by unfold numA; rw [h.1, h.2]; exact i0 hn t
  have h2 := hx.2.2
  rw [e] at h2
  have h3 : x = (⟨s.at' + (numB n).length, false⟩, n) := h2
  rw [h3]
  refine ⟨⟨rfl, ?_⟩, rfl⟩
  show b.drop (s.at' + (numB n).length) = t
  rw [← List.drop_drop, h.2, List.drop_left]
theorem AT5 {b : Str} {s : E0} {x : E0 × Str} {a t : Str} (h : AtS b s (textB a ++ t)) (ha : a.length ≤ 60) (hx : Y6 b s x) : AtS b x.1 t ∧ x.2 = a := by
  have e : textA b s = some (a, (textB a).length) := by unfold textA; rw [h.1, h.2]; exact v2 ha t
  have h2 := hx.2.2
  rw [e] at h2
  have h3 : x = (⟨s.at' + (textB a).length, false⟩, a) := h2
  rw [h3]
  refine ⟨⟨rfl, ?_⟩, rfl⟩
  show b.drop (s.at' + (textB a).length) = t
  rw [← List.drop_drop, h.2, List.drop_left]
theorem Aq5 {b : Str} {s u : E0} {l a : List Str} {t : Str} (h : AtS b s (textsB a ++ t)) (ha : (∀ x ∈ a, x.length ≤ 60) ∧ a.length ≤ 40) (hx : U4 b s u l) : AtS b u t ∧ l = a := by
  have e : textsA b s = some (a, (textsB a).length) := by unfold textsA; rw [h.1, h.2]; exact AA4 ha.1 ha.2 t
  have hb : u.bad = false := by
    cases hb : u.bad with
    | false => rfl
    | true => have := Au9 hx hb; rw [e] at this; cases this
  obtain ⟨k, h2, h3⟩ := AP5 hx hb
  rw [e] at h2
  injection h2 with h2; injection h2 with h2 h4
  subst h2; subst h4
  rw [h3]
  refine ⟨⟨rfl, ?_⟩, rfl⟩
  show b.drop (s.at' + (textsB a).length) = t
  rw [← List.drop_drop, h.2, List.drop_left]
theorem BA0 {b : Str} {s : E0} {f : Bool} {t : Str} (h : AtS b s (flagB f ++ t)) (hs : s.at' ≤ b.length) : AtS b (takeR b s 1).1 t ∧ ((takeR b s 1).2 == [1]) = f := by
  have hd : b.drop s.at' = (if f = true then 1 else 0) :: t := by rw [h.2]; unfold flagB; split <;> rfl
  rcases AP4 h.1 hs with ⟨e, _⟩ | ⟨c, r, e, e2⟩
  · rw [hd] at e; cases e
  · rw [hd] at e
    injection e with e3 e4
    subst e4
    rw [e2]
    refine ⟨⟨rfl, ?_⟩, ?_⟩
    · show b.drop (s.at' + 1) = t
      rw [← List.drop_drop, hd]; rfl
    · show ([c] == [1]) = f
      rw [← e3]; cases f <;> rfl
theorem at_one {b : Str} {s : E0} {f : Bool} {t : Str} (h : AtS b s (flagB f ++ t)) (hs : s.at' ≤ b.length) : AtS b (oneR b s).1 t ∧ (((oneR b s).2 : Int) == 1) = f := by
  have hd : b.drop s.at' = (if f = true then 1 else 0) :: t := by rw [h.2]; unfold flagB; split <;> rfl
  rcases Aq2 h.1 hs with ⟨e, _⟩ | ⟨c, r, e, e2⟩
  · rw [hd] at e; cases e
  · rw [hd] at e
    injection e with e3 e4
    subst e4
    rw [e2]
    refine ⟨⟨rfl, ?_⟩, ?_⟩
    · show b.drop (s.at' + 1) = t
      rw [← List.drop_drop, hd]; rfl
    · show (((c.toNat : Nat) : Int) == 1) = f
      rw [← e3]; cases f <;> rfl
theorem AM1 {l : List B4} {i : Nat} {w : B4} (h : l[i]? = some w) : writesB (l.drop i) = textB w.Key ++ (flagB w.Gone ++ (textB w.Val ++ writesB (l.drop (i + 1)))) := by
  rw [drop_some h]
  show writeB w ++ writesB (l.drop (i + 1)) = _
  unfold writeB; simp
theorem AY6 {b : Str} {s : E0} (n : Nat) (hs : s.at' ≤ b.length) : s.at' ≤ (takeR b s n).1.at' ∧ (takeR b s n).1.at' ≤ b.length := by
  unfold takeR
  split
  · exact ⟨Nat.le_refl _, hs⟩
  · rename_i h
    simp only [Bool.or_eq_true, decide_eq_true_eq, not_or] at h
    have := h.2
    exact ⟨Nat.le_add_right _ _, by dsimp only; omega⟩
theorem Ag0 {b : Str} {s : E0} (hs : s.at' ≤ b.length) : s.at' ≤ (oneR b s).1.at' ∧ (oneR b s).1.at' ≤ b.length := by
  unfold oneR
  split
  · exact ⟨Nat.le_refl _, hs⟩
  · rename_i h
    simp only [Bool.or_eq_true, decide_eq_true_eq, not_or] at h
    have := h.2
    exact ⟨Nat.le_add_right _ _, by dsimp only; omega⟩
theorem BD2 {p : Str} {r : E8} (hg : GoodR r) (hp : p = recIn r) {x1 x2 x3 x4 x5 : E0 × Nat} {u : E0} {l : List Str} (h1 : M2 p ⟨0, false⟩ x1) (h2 : M2 p x1.1 x2) (h3 : M2 p x2.1 x3) (h4 : M2 p x3.1 x4) (ht : U4 p (takeR p x4.1 1).1 u l) (h5 : M2 p u x5) :
    AtS p x5.1 (writesB r.Writes) ∧ (x1.2 = r.Kind.toNat ∧ x2.2 = r.Txn.toNat ∧ x3.2 = r.Time.toNat ∧ x4.2 = r.Lead.toNat) ∧ l = r.Reads ∧ ((takeR p x4.1 1).2 == [1]) = r.Yes ∧ x5.2 = r.Writes.length := by
  have a1 := hg.kind; have a2 := hg.txn; have a3 := hg.time; have a4 := hg.lead; have a5 := hg.writes.1
  have h0 : AtS p ⟨0, false⟩ (numB r.Kind.toNat ++ (numB r.Txn.toNat ++ (numB r.Time.toNat ++ (numB r.Lead.toNat ++ (flagB r.Yes ++ (textsB r.Reads ++ (numB r.Writes.length ++ writesB r.Writes))))))) := ⟨rfl, by rw [hp]; unfold recIn recHd; simp⟩
  obtain ⟨g1, e1⟩ := l7 h0 qz5 h1
  obtain ⟨g2, e2⟩ := l7 g1 qz5 h2
  obtain ⟨g3, e3⟩ := l7 g2 qz5 h3
  obtain ⟨g4, e4⟩ := l7 g3 qz5 h4
  obtain ⟨g5, e5⟩ := BA0 g4 h4.1.2
  obtain ⟨g6, e6⟩ := Aq5 g5 (AF2 hg) ht
  obtain ⟨g7, e7⟩ := l7 g6 qz5 h5
  exact ⟨g7, ⟨e1, e2, e3, e4⟩, e6, e5, e7⟩
theorem Av2 {p : Str} {r : E8} (hg : GoodR r) (hp : p = recIn r) {x1 x2 x3 x4 x5 : E0 × Nat} {u : E0} {l : List Str} (h1 : M2 p ⟨0, false⟩ x1) (h2 : M2 p x1.1 x2) (h3 : M2 p x2.1 x3) (h4 : M2 p x3.1 x4) (ht : U4 p (oneR p x4.1).1 u l) (h5 : M2 p u x5) :
    AtS p x5.1 (writesB r.Writes) ∧ (x1.2 = r.Kind.toNat ∧ x2.2 = r.Txn.toNat ∧ x3.2 = r.Time.toNat ∧ x4.2 = r.Lead.toNat) ∧ l = r.Reads ∧ (((oneR p x4.1).2 : Int) == 1) = r.Yes ∧ x5.2 = r.Writes.length := by
  have a1 := hg.kind; have a2 := hg.txn; have a3 := hg.time; have a4 := hg.lead; have a5 := hg.writes.1
  have h0 : AtS p ⟨0, false⟩ (numB r.Kind.toNat ++ (numB r.Txn.toNat ++ (numB r.Time.toNat ++ (numB r.Lead.toNat ++ (flagB r.Yes ++ (textsB r.Reads ++ (numB r.Writes.length ++ writesB r.Writes))))))) := ⟨rfl, by rw [hp]; unfold recIn recHd; simp⟩
  obtain ⟨g1, e1⟩ := l7 h0 qz5 h1
  obtain ⟨g2, e2⟩ := l7 g1 qz5 h2
  obtain ⟨g3, e3⟩ := l7 g2 qz5 h3
  obtain ⟨g4, e4⟩ := l7 g3 qz5 h4
  obtain ⟨g5, e5⟩ := at_one g4 h4.1.2
  obtain ⟨g6, e6⟩ := Aq5 g5 (AF2 hg) ht
  obtain ⟨g7, e7⟩ := l7 g6 qz5 h5
  exact ⟨g7, ⟨e1, e2, e3, e4⟩, e6, e5, e7⟩
def AZ5 (p : Str) (r : E8) (n : Nat) (s : E0) (ws : List B4) : Prop := ∃ i, i + n = r.Writes.length ∧ ws = r.Writes.take i ∧ AtS p s (writesB (r.Writes.drop i))
theorem BJ1 {p : Str} {r : E8} {n : Nat} {s : E0} {ws : List B4} (hg : GoodR r) (h : AZ5 p r n s ws) (hn : 0 < n) {x y : E0 × Str} (h1 : Y6 p s x) (hx : x.1.at' ≤ p.length) (h2 : Y6 p (takeR p x.1 1).1 y) : AZ5 p r (n - 1) y.1 (ws ++ [⟨x.2, y.2, ((takeR p x.1 1).2 == [1])⟩]) := by
  obtain ⟨i, e1, e2, e3⟩ := h
  obtain ⟨w, hw⟩ := E7 (show i < r.Writes.length by omega)
  rw [AM1 hw] at e3
  have hk := AT4 hg w (C6 hw)
  obtain ⟨g1, k1⟩ := AT5 e3 hk.1 h1
  obtain ⟨g2, k2⟩ := BA0 g1 hx
  obtain ⟨g3, k3⟩ := AT5 g2 hk.2 h2
  refine ⟨i + 1, by omega, ?_, g3⟩
  rw [List.take_add_one, hw, e2, k1, k2, k3]; rfl
theorem BD3 {p : Str} {r : E8} {n : Nat} {s : E0} {ws : List B4} (hg : GoodR r) (h : AZ5 p r n s ws) (hn : 0 < n) {x y : E0 × Str} (h1 : Y6 p s x) (hx : x.1.at' ≤ p.length) (h2 : Y6 p (oneR p x.1).1 y) : AZ5 p r (n - 1) y.1 (ws ++ [⟨x.2, y.2, (((oneR p x.1).2 : Int) == 1)⟩]) := by
  obtain ⟨i, e1, e2, e3⟩ := h
  obtain ⟨w, hw⟩ := E7 (show i < r.Writes.length by omega)
  rw [AM1 hw] at e3
  have hk := AT4 hg w (C6 hw)
  obtain ⟨g1, k1⟩ := AT5 e3 hk.1 h1
  obtain ⟨g2, k2⟩ := at_one g1 hx
  obtain ⟨g3, k3⟩ := AT5 g2 hk.2 h2
  refine ⟨i + 1, by omega, ?_, g3⟩
  rw [List.take_add_one, hw, e2, k1, k2, k3]; rfl
theorem AK9 {p : Str} {r : E8} {n : Nat} {s : E0} {ws : List B4} (h : AZ5 p r n s ws) (hn : n = 0 ∨ s.bad = true) : s.bad = false ∧ ws = r.Writes := by
  obtain ⟨i, e1, e2, e3⟩ := h
  have hb := e3.1
  have hn0 : n = 0 := by rcases hn with h | h; exact h; rw [hb] at h; cases h
  refine ⟨hb, ?_⟩
  rw [e2, List.take_of_length_le qz5]
theorem Aj9 {p : Str} {s : E0} {x : E0 × Str} (h : Y6 p s x) (hb : x.1.bad = false) : s.at' + 1 ≤ x.1.at' := by
  obtain ⟨t, k, h1, h2⟩ := Au8 h hb
  unfold textA at h1
  split at h1
  · cases h1
  · obtain ⟨_, h3, _⟩ := Ab4 h1
    have h4 := AC7 t.length
    have h5 : 1 ≤ k := by rw [h3]; unfold textB; rw [D5]; omega
    rw [h2]; show s.at' + 1 ≤ s.at' + k; omega
theorem BA1 {p : Str} {s : E0} {x : E0 × Nat} (h : M2 p s x) (hb : s.bad = true) : x.1.bad = true := by
  cases e : x.1.bad with
  | true => rfl
  | false =>
    obtain ⟨n, k, h1, _⟩ := c0 h e
    unfold numA at h1; rw [if_pos hb] at h1; cases h1
theorem AV7 : ∀ {n : Nat} {s : Str} {l : List Str} {k : Nat}, textsN n s = some (l, k) → l.length = n ∧ ∀ t ∈ l, t.length ≤ 60
  | 0, s, l, k, h => by simp [textsN] at h; rw [h.1]; exact ⟨rfl, fun t ht => by cases ht⟩
  | n + 1, s, l, k, h => by
    unfold textsN at h
    cases h1 : textP s with
    | none => rw [h1] at h; cases h
    | some z =>
      obtain ⟨t, j⟩ := z
      rw [h1] at h
      cases h2 : textsN n (s.drop j) with
      | none => simp [h2] at h
      | some z2 =>
        obtain ⟨l2, j2⟩ := z2
        simp [h2] at h
        have ih := AV7 h2
        have ht := (Ab4 h1).1
        rw [← h.1]
        exact ⟨by simp [ih.1], fun t' ht' => by
          rcases List.mem_cons.1 ht' with rfl | ht'
          · exact ht
          · exact ih.2 t' ht'⟩
theorem Ac0 {p : Str} {s u : E0} {l : List Str} (h : U4 p s u l) (hb : u.bad = false) : l.length ≤ 40 ∧ ∀ t ∈ l, t.length ≤ 60 := by
  obtain ⟨k, h1, _⟩ := AP5 h hb
  cases e : numA p s with
  | none => rw [AV3 e] at h1; cases h1
  | some z =>
    obtain ⟨n, j⟩ := z
    rw [AK7 e] at h1
    split at h1
    · rename_i hn
      cases e2 : textsN n ((p.drop s.at').drop j) with
      | none => rw [e2] at h1; cases h1
      | some z2 =>
        obtain ⟨l2, k2⟩ := z2
        rw [e2] at h1
        have h3 := AV7 e2
        simp at h1
        rw [← h1.1]
        exact ⟨by omega, h3.2⟩
    · cases h1
theorem AV8 {b : Str} {r0 : E8} (h0 : (readRecR b).1 = r0) {rr : E8} (hrr : goodRec r0 = true ∧ recB r0 = b → rr = r0) {bad : Bool} (hb : goodRec r0 = true ∧ recB r0 = b → bad = false) (h : ((bad || !goodRec rr) || (recB rr != b)) = true) : readRecR b = (V2, false) := by
  refine AG7 fun hh => ?_
  rw [h0] at hh
  rw [hb hh, hrr hh, hh.1] at h
  simp [hh.2] at h
def readF (b : Str) (k : Nat) : Str × Int × Bool := match frameP (b.drop k) with
  | some (t, j) => (t, ((k + j : Nat) : Int), true)
  | none => ([], 0, false)
def readFS (b : Str) (k : Nat) : Str × Int := match frameP (b.drop k) with
  | some (t, j) => (t, ((k + j : Nat) : Int))
  | none => ([], -1)
theorem BJ2 {b : Str} {s : E0} {n : Nat} (hs : s.at' ≤ b.length) : (takeR b s n).1.at' ≤ b.length := by
  unfold takeR
  split
  · exact hs
  · rename_i h
    simp only [Bool.or_eq_true, decide_eq_true_eq, not_or] at h
    dsimp only; omega
theorem Ak0 {b : Str} {s : E0} {n : Nat} : (takeR b s n).2.length ≤ b.length := by
  unfold takeR
  split
  · simp
  · dsimp only; rw [H2, List.length_drop]; omega
theorem AL0 {s : Str} {n j : Nat} (h : numP s = some (n, j)) : frameP s = if n ≤ 700 ∧ j + n + 3 ≤ s.length ∧ L9 ((s.drop j).take n) = (s.drop j).take (n + 3) then some ((s.drop j).take n, j + n + 3) else none := by
  unfold frameP; rw [h]
theorem AQ0 {s : Str} (h : numP s = none) : frameP s = none := by unfold frameP; rw [h]
theorem j7 {b : Str} {k : Nat} (h : frameP (b.drop k) = none) : readF b k = ([], 0, false) ∧ readFS b k = ([], -1) := by unfold readF readFS; rw [h]; exact ⟨rfl, rfl⟩
theorem j8 {b : Str} {k j : Nat} {t : Str} (h : frameP (b.drop k) = some (t, j)) : readF b k = (t, ((k + j : Nat) : Int), true) ∧ readFS b k = (t, ((k + j : Nat) : Int)) := by unfold readF readFS; rw [h]; exact ⟨rfl, rfl⟩
theorem w1 {b : Str} {k : Nat} {x : E0 × Nat} (h : M2 b ⟨k, false⟩ x) : (numP (b.drop k) = none ∧ x.1.bad = true ∧ x.2 = 0) ∨ ∃ n j, numP (b.drop k) = some (n, j) ∧ x = (⟨k + j, false⟩, n) := by
  obtain ⟨_, _, h3⟩ := h
  rw [AY4] at h3
  cases hn : numP (b.drop k) with
  | none => rw [hn] at h3; exact .inl ⟨rfl, h3.1, h3.2⟩
  | some y => obtain ⟨n, j⟩ := y; rw [hn] at h3; exact .inr ⟨n, j, rfl, h3⟩
theorem BJ3 {b : Str} {k : Nat} {x : E0 × Nat} (h : M2 b ⟨k, false⟩ x) (hx : 700 < x.2) : frameP (b.drop k) = none := by
  rcases w1 h with ⟨h1, _, h2⟩ | ⟨n, j, h1, rfl⟩
  · omega
  · rw [AL0 h1, if_neg (by dsimp only at hx; omega)]
theorem BD4 {b : Str} {k : Nat} {x : E0 × Nat} (hk : k ≤ b.length) (h : M2 b ⟨k, false⟩ x) (hx : ¬ 700 < x.2) :
    (((takeR b (takeR b x.1 x.2).1 3).1.bad || (L9 (takeR b x.1 x.2).2 != (takeR b x.1 x.2).2 ++ (takeR b (takeR b x.1 x.2).1 3).2)) = true → frameP (b.drop k) = none) ∧
    (((takeR b (takeR b x.1 x.2).1 3).1.bad || (L9 (takeR b x.1 x.2).2 != (takeR b x.1 x.2).2 ++ (takeR b (takeR b x.1 x.2).1 3).2)) = false → readF b k = ((takeR b x.1 x.2).2, ((takeR b (takeR b x.1 x.2).1 3).1.at' : Int), true)) := by
  rcases w1 h with ⟨h1, h2, h3⟩ | ⟨n, j, h1, rfl⟩
  · rw [o2 h2, o2 (s := ⟨x.1.at', true⟩) rfl]
    exact ⟨fun _ => AQ0 h1, fun e => by simp at e⟩
  · dsimp only at hx ⊢
    have hj := (AY2 h1).1
    rw [List.length_drop] at hj
    have hf := AL0 h1
    rw [List.drop_drop, List.length_drop] at hf
    by_cases c1 : b.length - (k + j) < n
    · have e1 : takeR b ⟨k + j, false⟩ n = (⟨k + j, true⟩, []) := by unfold takeR; rw [if_pos W7]
      rw [e1, o2 (s := ⟨k + j, true⟩) rfl]
      exact ⟨fun _ => by rw [hf, if_neg qz5], fun e => by simp at e⟩
    · have e1 : takeR b ⟨k + j, false⟩ n = (⟨k + j + n, false⟩, (b.drop (k + j)).take n) := by unfold takeR; rw [if_neg W7]
      rw [e1]
      dsimp only
      by_cases c2 : b.length - (k + j + n) < 3
      · have e2 : takeR b ⟨k + j + n, false⟩ 3 = (⟨k + j + n, true⟩, []) := by unfold takeR; rw [if_pos W7]
        rw [e2]
        exact ⟨fun _ => by rw [hf, if_neg qz5], fun e => by simp at e⟩
      · have e2 : takeR b ⟨k + j + n, false⟩ 3 = (⟨k + j + n + 3, false⟩, (b.drop (k + j + n)).take 3) := by unfold takeR; rw [if_neg W7]
        rw [e2]
        dsimp only
        have e3 : (b.drop (k + j)).take (n + 3) = (b.drop (k + j)).take n ++ (b.drop (k + j + n)).take 3 := by rw [List.take_add, List.drop_drop]
        rw [e3] at hf
        rw [Bool.false_or]
        constructor
        · intro e
          rw [hf, if_neg (fun hh => by rw [hh.2.2] at e; simp at e)]
        · intro e
          have hs : L9 ((b.drop (k + j)).take n) = (b.drop (k + j)).take n ++ (b.drop (k + j + n)).take 3 := by simpa using e
          rw [if_pos ⟨by omega, by omega, hs⟩] at hf
          rw [(j8 hf).1]
          simp only [Prod.mk.injEq, and_true, true_and]
          omega
theorem BD5 {b : Str} {k : Nat} {x : E0 × Nat} (hk : k ≤ b.length) (h : M2 b ⟨k, false⟩ x) :
    (x.1.bad = true ∨ 700 < x.2 ∨ (b.length : Int) - (x.1.at' : Int) < (x.2 : Int) + 3 → frameP (b.drop k) = none) ∧
    (x.1.bad = false → ¬ 700 < x.2 → ¬ (b.length : Int) - (x.1.at' : Int) < (x.2 : Int) + 3 →
      (frameB ((b.drop x.1.at').take x.2) ≠ (b.drop k).take (x.1.at' + x.2 + 3 - k) → frameP (b.drop k) = none) ∧
      (frameB ((b.drop x.1.at').take x.2) = (b.drop k).take (x.1.at' + x.2 + 3 - k) → readFS b k = ((b.drop x.1.at').take x.2, (x.1.at' : Int) + x.2 + 3))) := by
  rcases w1 h with ⟨h1, h2, h3⟩ | ⟨n, j, h1, rfl⟩
  · exact ⟨fun _ => AQ0 h1, fun e => by rw [h2] at e; cases e⟩
  · dsimp only
    have hj := (AY2 h1).1
    rw [List.length_drop] at hj
    have hf := AL0 h1
    rw [List.drop_drop, List.length_drop] at hf
    refine ⟨fun e => ?_, fun _ hx hl => ?_⟩
    · rw [hf, if_neg]
      intro hh
      rcases e with e | e | e
      · cases e
      · omega
      · omega
    · obtain ⟨g1, g2, r, g3⟩ := AE9 h1
      have hD : b.drop (k + j) = r := by rw [← List.drop_drop, g3, g2, List.drop_left]
      have hlen : ((b.drop (k + j)).take n).length = n := by rw [H2, List.length_drop]; omega
      have e1 : frameB ((b.drop (k + j)).take n) = numB n ++ L9 ((b.drop (k + j)).take n) := by unfold frameB; rw [hlen]
      have e2 : (b.drop k).take (k + j + n + 3 - k) = numB n ++ (b.drop (k + j)).take (n + 3) := by
        rw [show k + j + n + 3 - k = (numB n).length + (n + 3) by omega, hD, g3, List.take_append]
        rw [List.take_of_length_le qz5]
        congr 2
        omega
      rw [e1, e2, hf]
      constructor
      · intro e
        rw [if_neg (fun hh => e (by rw [hh.2.2]))]
      · intro e
        have hs := List.append_cancel_left e
        have hf2 := hf
        rw [if_pos ⟨by omega, by omega, hs⟩] at hf2
        rw [(j8 hf2).2]
        simp only [Prod.mk.injEq, true_and]
        omega
def goodDisk (d : G6) : Bool := decide (((d.Kept.length : Int) + (d.Loose.length : Int)) ≤ 50000)
def T9 : G6 := ⟨[], []⟩
def ifDisk (d : G6) : G6 × Bool := if (!goodDisk d) = true then (T9, false) else (d, true)
def writeD (d : G6) (s : Str) : G6 × Bool := if (!goodDisk d || decide ((700 : Int) < (s.length : Int))) = true then (T9, false) else ifDisk ⟨d.Kept, d.Loose ++ frameB s⟩
def syncR (d : G6) : G6 × Bool := ifDisk ⟨d.Kept ++ d.Loose, []⟩
def mendable (d : G6) : Bool := goodDisk d && (d.Loose == [])
def mendD (d : G6) : G6 × Bool := if (!mendable d) = true then (T9, false) else (⟨d.Kept.take (framesB d.Kept).2, []⟩, true)
def K9 (d : G6) : List Str × Int × Bool := if (!goodDisk d) = true then ([], 0, false) else ((framesB (d.Kept ++ d.Loose)).1, ((framesB (d.Kept ++ d.Loose)).2 : Int), true)
theorem q8 (s : Str) : (∀ t ∈ (framesB s).1, t.length ≤ 700) ∧ (framesB s).2 ≤ s.length ∧ s.take (framesB s).2 = ((framesB s).1.map frameB).flatten := AM0 (s.length + 1) s qz5
theorem frB_len {s : Str} (h : s.length ≤ 1048576) : (frameB s).length ≤ s.length + 12 := by
  rw [Q4]; have := J9 (k := 9) (n := s.length) qz5 B5; omega
theorem AL1 {d : G6} (h : d.Kept.length + d.Loose.length ≤ 50000) : goodDisk d = true := by
  unfold goodDisk; simp only [decide_eq_true_eq]; omega
theorem BJ4 {d : G6} (h : goodDisk d = true) : ifDisk d = (d, true) := by unfold ifDisk; rw [h]; rfl
theorem BJ5 {d : G6} {s : Str} (h : goodDisk d = true) (hs : s.length ≤ 700) (h2 : d.Kept.length + d.Loose.length + (frameB s).length ≤ 50000) : writeD d s = (⟨d.Kept, d.Loose ++ frameB s⟩, true) := by
  unfold writeD
  rw [h, if_neg W7]
  exact BJ4 (AL1 (by simp only [D5]; omega))
structure MendFacts (d : G6) (s : Str) (l : List Str) : Prop where
  before : K9 d = (l, ((framesB d.Kept).2 : Int), true)
  write : writeD ⟨(l.map frameB).flatten, []⟩ s = (⟨(l.map frameB).flatten, frameB s⟩, true)
  sync : syncR ⟨(l.map frameB).flatten, frameB s⟩ = (⟨((l ++ [s]).map frameB).flatten, []⟩, true)
  frames : K9 ⟨((l ++ [s]).map frameB).flatten, []⟩ = (l ++ [s], ((((l ++ [s]).map frameB).flatten.length : Nat) : Int), true)
  again : mendD ⟨((l ++ [s]).map frameB).flatten, []⟩ = (⟨((l ++ [s]).map frameB).flatten, []⟩, true)
theorem Av3 (s : Str) : (((framesB s).1.map frameB).flatten).length ≤ s.length := by
  obtain ⟨_, h2, h3⟩ := q8 s
  rw [← h3, H2]; omega
set_option linter.unusedSectionVars false
section
variable {α : Type} [Inhabited α]
structure Swo (lt : α → α → Bool) : Prop where
  asym : ∀ a b, lt a b = true → lt b a = false
  ntr : ∀ a b c, lt b a = false → lt c b = false → lt c a = false
def InR (l : List α) (a b : Nat) (x : α) : Prop := ∃ i, a ≤ i ∧ i < b ∧ l[i]? = some x
structure Ah6 (l l' : List α) (a b : Nat) : Prop where
  len : l'.length = l.length
  perm : l'.Perm l
  out : ∀ i, i < a ∨ b ≤ i → l'[i]? = l[i]?
  inn : ∀ x, InR l' a b x → InR l a b x
theorem Ah6.refl (l : List α) (a b : Nat) : Ah6 l l a b := ⟨rfl, List.Perm.refl _, fun _ _ => rfl, fun _ h => h⟩
theorem Ah6.trans {l l' l'' : List α} {a b : Nat} (h : Ah6 l l' a b) (k : Ah6 l' l'' a b) : Ah6 l l'' a b :=
  ⟨k.len.trans h.len, k.perm.trans h.perm, fun i hi => (k.out i hi).trans (h.out i hi), fun x hx => h.inn x (k.inn x hx)⟩
end
section
variable {α : Type} [Inhabited α] [DecidableEq α]
def cmpN (l : List α) : Nat → List α
  | 0 => []
  | n + 1 => if n ≠ 0 ∧ l[n]? = l[n - 1]? then cmpN l n else cmpN l n ++ (l[n]?).toList
def cmpL (l : List α) : List α := cmpN l l.length
end
end Go.M
namespace Go.M
theorem X9 : ∀ {a b c : Str}, Op.bytesLess a b = true → Op.bytesLess b c = true → Op.bytesLess a c = true
  | [], b, c, h1, h2 => by
    cases c with
    | nil => cases b <;> simp [Op.bytesLess] at h2
    | cons z c => rfl
  | x :: a, [], _, h1, _ => by simp [Op.bytesLess] at h1
  | x :: a, y :: b, [], _, h2 => by simp [Op.bytesLess] at h2
  | x :: a, y :: b, z :: c, h1, h2 => by
    simp only [Op.bytesLess, Bool.or_eq_true, Bool.and_eq_true, decide_eq_true_eq, beq_iff_eq] at h1 h2 ⊢
    rcases h1 with h1 | ⟨h1, h1'⟩
    · rcases h2 with h2 | ⟨h2, _⟩
      · exact .inl (UInt8.lt_trans h1 h2)
      · subst h2; exact .inl h1
    · subst h1
      rcases h2 with h2 | ⟨h2, h2'⟩
      · exact .inl h2
      · exact .inr ⟨h2, X9 h1' h2'⟩
theorem BA2 (a b : Str) : (!(Op.bytesLess a b || a == b)) = Op.bytesLess b a := by
  have h := d3 a b
  cases h1 : Op.bytesLess a b
  · cases h2 : Op.bytesLess b a
    · rw [h1, h2] at h; simp at h; simp [h]
    · simp; intro hc; subst hc; rw [S7] at h2; cases h2
  · simp; cases h2 : Op.bytesLess b a with
    | false => rfl
    | true => have := X9 h1 h2; rw [S7] at this; cases this
def AD9 (a b : Int) : Int := if a < b then a else b
theorem BJ6 (a b : Str) : Op.bytesLess a b = true ∨ a = b ∨ Op.bytesLess b a = true := by
  have h := d3 a b
  cases h1 : Op.bytesLess a b
  · cases h2 : Op.bytesLess b a
    · rw [h1, h2] at h; simp at h; exact .inr (.inl h.symm)
    · exact .inr (.inr rfl)
  · exact .inl rfl
end Go.M
namespace Go.M
open Go.AV
def AZ6 (l : List Str) : Prop := l.Pairwise fun a b => Op.bytesLess a b = true
def sortS (l : List Str) : List Str := l.mergeSort fun x y => decide (x ≤ y)
def keysI (l : List Str) : List Str := cmpL (sortS l)
def putS : List Str → Str → List Str
  | [], s => [s]
  | y :: l, s => if Op.bytesLess s y = true then s :: y :: l else if y = s then y :: l else y :: putS l s
theorem Aq6 {s : Str} : ∀ {l : List Str}, AZ6 l → AZ6 (putS l s) ∧ ∀ z, z ∈ putS l s ↔ z ∈ l ∨ z = s
  | [], _ => ⟨by unfold AZ6 putS; simp, fun z => by simp [putS]⟩
  | y :: l, h => by
    obtain ⟨h1, h2⟩ := List.pairwise_cons.1 h
    unfold putS
    split
    · rename_i hs
      refine ⟨List.pairwise_cons.2 ⟨fun z hz => ?_, h⟩, fun z => ?_⟩
      · rcases List.mem_cons.1 hz with rfl | hz
        · exact hs
        · exact X9 hs (h1 z hz)
      · rw [List.mem_cons, or_comm]
    · rename_i hs
      split
      · rename_i e
        subst e
        refine ⟨h, fun z => ⟨.inl, ?_⟩⟩
        rintro (hz | rfl)
        · exact hz
        · exact List.mem_cons_self
      · rename_i e
        obtain ⟨i1, i2⟩ := Aq6 (s := s) h2
        have hys : Op.bytesLess y s = true := by
          rcases BJ6 y s with g | g | g
          · exact g
          · exact absurd g e
          · exact absurd g hs
        refine ⟨List.pairwise_cons.2 ⟨fun z hz => ?_, i1⟩, fun z => ?_⟩
        · rcases (i2 z).1 hz with hz | rfl
          · exact h1 z hz
          · exact hys
        · rw [List.mem_cons, i2, List.mem_cons, or_assoc]
theorem Aq7 (s : Str) : ∀ l : List Str, (putS l s).length ≤ l.length + 1
  | [] => Nat.le_refl _
  | y :: l => by
    have := Aq7 s l
    unfold putS
    split
    · exact Nat.le_refl _
    · split
      · exact Nat.le_succ _
      · rw [E6, E6]; omega
theorem Ak1 {s : Str} : ∀ {l : List Str} {k : Nat}, AZ6 l → k ≤ l.length → (∀ i y, k ≤ i → l[i]? = some y → Op.bytesLess s y = true) → (∀ y, 0 < k → l[k - 1]? = some y → Op.bytesLess s y = false ∧ y ≠ s) → putS l s = l.take k ++ s :: l.drop k
  | [], k, _, hk, _, _ => by have : k = 0 := by simpa using hk
                             subst this; rfl
  | y :: l, 0, _, _, h, _ => by
    unfold putS
    rw [if_pos (h 0 y (Nat.le_refl _) rfl)]; rfl
  | y :: l, k + 1, hs, hk, h, g => by
    obtain ⟨h1, h2⟩ := List.pairwise_cons.1 hs
    have hy : Op.bytesLess s y = false ∧ y ≠ s := by
      cases k with
      | zero => exact g y qz5 rfl
      | succ k =>
        obtain ⟨z, hz⟩ := E7 (show k < l.length by simp at hk; omega)
        have hgz := g z qz5 (by simpa using hz)
        have hyz := h1 z (C6 hz)
        refine ⟨?_, fun e => ?_⟩
        · cases e : Op.bytesLess s y with
          | false => rfl
          | true => have := X9 e hyz; rw [hgz.1] at this; cases this
        · subst e; rw [hyz] at hgz; cases hgz.1
    unfold putS
    rw [if_neg (by rw [hy.1]; decide), if_neg hy.2, Ak1 h2 (by simpa using hk) (fun i z hi hz => h (i + 1) z qz5 (by simpa using hz)) (fun z hz hz2 => g z qz5 (by
      cases k with
      | zero => omega
      | succ k => simpa using hz2))]
    rfl
theorem Ac1 {s : Str} : ∀ {l : List Str} {k : Nat}, AZ6 l → l[k]? = some s → putS l s = l
  | y :: l, 0, hs, h => by
    simp at h; subst h
    unfold putS
    rw [if_neg (by rw [S7]; decide), if_pos rfl]
  | y :: l, k + 1, hs, h => by
    obtain ⟨h1, h2⟩ := List.pairwise_cons.1 hs
    have h3 : l[k]? = some s := by simpa using h
    have hy := h1 s (C6 h3)
    unfold putS
    rw [if_neg (fun e => by have := X9 e hy; rw [S7] at this; cases this), if_neg (fun e => by rw [e, S7] at hy; cases hy), Ac1 h2 h3]
  | [], k, hs, h => by simp at h
def verGood (v : c5) : Bool := isTime v.Time && isStored v.Val v.Gone
def verLess (a b : c5) : Bool := decide (a.Time < b.Time)
def isCell (c : O3) : Bool := (c.Vers.all verGood && adj verLess c.Vers) && within c.Vers.length 1 16
def cKeys (l : List O3) : List Str := l.map O3.Key
def BL4 (l : List O3) : Bool := l.all isCell && (decide ((l.length : Int) ≤ 24) && areRising (cKeys l))
def cLess (a b : O3) : Bool := Op.bytesLess a.Key b.Key
def findC (l : List O3) (k : Str) : Option O3 := l.find? fun c => c.Key == k
def lastV (c : O3) : Int := match c.Vers.getLast? with
  | some v => v.Time
  | none => 0
def Au1 (l : List O3) (k : Str) : Int := match findC l k with
  | some c => lastV c
  | none => 0
def BB2 (c : O3) (t : Int) : Str × Bool := match c.Vers.reverse.find? (fun v => decide (v.Time ≤ t)) with
  | some v => (v.Val, !v.Gone)
  | none => ([], false)
def BB3 (l : List O3) (t : Int) : List B4 := l.filterMap fun c => if (BB2 c t).2 = true then some ⟨c.Key, (BB2 c t).1, false⟩ else none
def CellsOk (l : List O3) : Prop := adj cLess l = true ∧ ∀ c ∈ l, 1 ≤ c.Vers.length
def O3.ocs (c : O3) (x : Value) : List AV := [AV.str c.Key, AV.is x]
theorem BD6 {α : Type} {f : α → Nat} {x : α} {l : List α} : sizeL f (x :: l) = 1 + f x + sizeL f l := by unfold sizeL; simp; omega
def E8.ocs (c : E8) (x : Value × Value) : List AV := [AV.int c.Kind, AV.int c.Txn, AV.int c.Time, AV.int c.Lead, AV.is x.1, AV.is x.2, AV.bool c.Yes]
def P9.ocs (c : P9) (x : Value × Value) : List AV := [AV.int c.Ver, AV.is x.1, AV.is x.2]
def TMove.ocs (c : TMove) (x : Value × Value) : List AV := [AV.str c.Low, AV.str c.High, AV.int c.Phase, AV.is x.1, AV.is x.2, AV.str c.Last, AV.bool c.Over]
theorem AQ1 {α : Type} {f : α → Nat} {c : Nat} : ∀ {l : List α}, (∀ x ∈ l, f x ≤ c) → sizeL f l ≤ l.length * (c + 1)
  | [], _ => by simp [sizeL]
  | x :: l, h => by
    rw [BD6]
    have h1 := h x List.mem_cons_self
    have h2 := AQ1 (l := l) fun y hy => h y (List.mem_cons_of_mem _ hy)
    rw [E6, Nat.add_mul]; omega
def hRec (h : S2) : E8 := ⟨1, h.Txn, h.Time, h.Lead, h.Reads, h.Writes, false⟩
def hasK (l : List B4) (k : Str) : Bool := l.any fun w => w.Key == k
def hasS (l : List Str) (k : Str) : Bool := l.any fun x => k == x
def apart (h : S2) (rs : List Str) (ws : List B4) : Bool := rs.all (fun k => !hasK h.Writes k) && ws.all (fun w => !(hasK h.Writes w.Key || hasS h.Reads w.Key))
def fullC (cells : List O3) (k : Str) : Bool := match findC cells k with
  | some c => decide (16 ≤ c.Vers.length)
  | none => false
def hWs (l : List S2) : List B4 := (l.map S2.Writes).flatten
def roomKs (cells : List O3) (ws : List B4) : List Str := keysI (cKeys cells ++ AU3 ws)
def room (cells : List O3) (ws : List B4) : Bool := ws.all (fun w => !fullC cells w.Key) && decide ((roomKs cells ws).length ≤ 24)
def hasH (l : List S2) (n : Int) : Bool := l.any fun h => h.Txn == n
def tFits (s : Q5) (t : AB8) : Bool := if t.Yes = true then within t.Time 1 s.Floor else t.Time == 0
structure GS (s : Q5) : Prop where
  floor : 0 ≤ s.Floor ∧ s.Floor ≤ 100000
  cells : BL4 s.Cells = true
  good : ∀ h ∈ s.Held, goodRec (hRec h) = true ∧ h.Time ≤ s.Floor ∧ ∀ w ∈ h.Writes, Au1 s.Cells w.Key < h.Time
  hsort : s.Held.Pairwise fun a b => a.Txn < b.Txn
  apart : s.Held.Pairwise fun a b => apart a b.Reads b.Writes = true
  hlen : s.Held.length ≤ 12
  room : room s.Cells (hWs s.Held) = true
  tlen : s.Told.length ≤ 60
  last : ∀ c ∈ s.Cells, Au1 s.Cells c.Key ≤ s.Floor
  told : ∀ t ∈ s.Told, isTxnR t.Txn = true ∧ tFits s t = true ∧ hasH s.Held t.Txn = false
  tsort : s.Told.Pairwise fun a b => a.Txn < b.Txn
def settled (s : Q5) : Int := s.Held.foldl (fun o h => min o (h.Time - 1)) s.Floor
structure AU5 (s s' : Q5) : Prop where
  floor : s.Floor ≤ s'.Floor
  told : ∀ t ∈ s.Told, t ∈ s'.Told
  tlen : s.Told.length ≤ s'.Told.length
  settled : settled s ≤ settled s'
  cells : ∀ a, a ≤ M.settled s → BB3 s'.Cells a = BB3 s.Cells a
theorem AU5.refl (s : Q5) : AU5 s s := ⟨Int.le_refl _, fun _ h => h, Nat.le_refl _, Int.le_refl _, fun _ _ => rfl⟩
theorem AU5.trans {a b c : Q5} (h : AU5 a b) (k : AU5 b c) : AU5 a c :=
  ⟨Int.le_trans h.floor k.floor, fun t ht => k.told t (h.told t ht), Nat.le_trans h.tlen k.tlen, Int.le_trans h.settled k.settled, fun x hx => (k.cells x (Int.le_trans hx h.settled)).trans (h.cells x hx)⟩
def keyD : List Str := [[97], [98], [99], [109], [110], [122], [114, 47, 49], [105, 47, 120, 47, 49]]
def logOk (t : Int) : Int → List B8 → Bool
  | _, [] => true
  | p, e :: l => (within e.Term p t && goodRec e.Rec) && logOk t e.Term l
def goodRep (r : C1) (t : Int) : Bool := (decide ((r.Log.length : Int) ≤ 60) && within r.Sure 0 r.Log.length) && logOk t 1 r.Log
def d6 (n : Int) : Bool := n == 3 || n == 5
def isRep (g : TGroup) (r : Int) : Bool := within r 0 ((g.Reps.length : Int) - 1)
def repAt (g : TGroup) (r : Int) : C1 := (g.Reps[r.toNat]?).getD ⟨false, [], 0⟩
def goodGroup (g : TGroup) : Bool := ((d6 g.Reps.length && within g.Term 0 200) && (g.Lead == -1 || (isRep g g.Lead && (repAt g g.Lead).Up))) && g.Reps.all fun r => goodRep r g.Term
def O5 : TGroup := ⟨[], 0, 0⟩
structure GR (r : C1) (t : Int) : Prop where
  len : r.Log.length ≤ 60
  sure : 0 ≤ r.Sure ∧ r.Sure ≤ r.Log.length
  ents : ∀ e ∈ r.Log, 1 ≤ e.Term ∧ e.Term ≤ t ∧ goodRec e.Rec = true
  sorted : r.Log.Pairwise fun a b => a.Term ≤ b.Term
structure GG (g : TGroup) : Prop where
  many : g.Reps.length = 3 ∨ g.Reps.length = 5
  term : 0 ≤ g.Term ∧ g.Term ≤ 200
  lead : g.Lead = -1 ∨ (0 ≤ g.Lead ∧ g.Lead < g.Reps.length ∧ (repAt g g.Lead).Up = true)
  reps : ∀ r ∈ g.Reps, GR r g.Term
theorem Ak2 {t : Int} : ∀ {l : List B8} {p : Int}, logOk t p l = true ↔ (∀ e ∈ l, p ≤ e.Term ∧ e.Term ≤ t ∧ goodRec e.Rec = true) ∧ l.Pairwise fun a b => a.Term ≤ b.Term
  | [], p => by simp [logOk]
  | e :: l, p => by
    unfold logOk within
    rw [Bool.and_eq_true, Bool.and_eq_true, Bool.and_eq_true, decide_eq_true_eq, decide_eq_true_eq, Ak2, List.pairwise_cons]
    constructor
    · rintro ⟨⟨⟨h1, h2⟩, h3⟩, h4, h5⟩
      refine ⟨fun x hx => ?_, fun x hx => (h4 x hx).1, h5⟩
      rcases List.mem_cons.1 hx with rfl | hx
      · exact ⟨h1, h2, h3⟩
      · have := h4 x hx; exact ⟨by omega, this.2⟩
    · rintro ⟨h1, h2, h3⟩
      have h0 := h1 e List.mem_cons_self
      exact ⟨⟨⟨h0.1, h0.2.1⟩, h0.2.2⟩, fun x hx => ⟨h2 x hx, (h1 x (List.mem_cons_of_mem _ hx)).2⟩, h3⟩
theorem AV9 {r : C1} {t : Int} : goodRep r t = true ↔ GR r t := by
  unfold goodRep within
  simp only [Bool.and_eq_true, decide_eq_true_eq, Ak2]
  constructor
  · rintro ⟨⟨h1, h2, h3⟩, h4, h5⟩; exact ⟨by omega, ⟨h2, h3⟩, h4, h5⟩
  · rintro ⟨h1, ⟨h2, h3⟩, h4, h5⟩; exact ⟨⟨by omega, h2, h3⟩, h4, h5⟩
theorem z5 {g : TGroup} {r : Int} : isRep g r = true ↔ 0 ≤ r ∧ r < g.Reps.length := by
  unfold isRep within; simp only [Bool.and_eq_true, decide_eq_true_eq]; omega
theorem S0 {g : TGroup} : goodGroup g = true ↔ GG g := by
  unfold goodGroup d6 within
  simp only [Bool.and_eq_true, Bool.or_eq_true, decide_eq_true_eq, beq_iff_eq, List.all_eq_true, AV9, z5]
  constructor
  · rintro ⟨⟨⟨h1, h2⟩, h3⟩, h4⟩
    refine ⟨by omega, h2, ?_, h4⟩
    rcases h3 with h | ⟨⟨h, k⟩, l⟩
    · exact .inl h
    · exact .inr ⟨h, k, l⟩
  · rintro ⟨h1, h2, h3, h4⟩
    refine ⟨⟨⟨by omega, h2⟩, ?_⟩, h4⟩
    rcases h3 with h | ⟨h, k, l⟩
    · exact .inl h
    · exact .inr ⟨⟨h, k⟩, l⟩
theorem K3 {g : TGroup} {r : Int} (h : 0 ≤ r ∧ r < g.Reps.length) : g.Reps[r.toNat]? = some (repAt g r) := by
  unfold repAt
  rw [List.getElem?_eq_getElem (show r.toNat < g.Reps.length by omega)]; rfl
theorem Z9 {g : TGroup} {r : Int} (h : 0 ≤ r ∧ r < g.Reps.length) : repAt g r ∈ g.Reps := C6 (K3 h)
def setRep (g : TGroup) (r : Int) (x : C1) : TGroup := ⟨g.Reps.set r.toNat x, g.Term, g.Lead⟩
def isUp (g : TGroup) (r : Int) (up : Bool) : Bool := (goodGroup g && isRep g r) && ((repAt g r).Up == up)
def crashR (g : TGroup) (r : Int) : TGroup × Bool :=
  if isUp g r true = true then (⟨g.Reps.set r.toNat ⟨false, (repAt g r).Log, (repAt g r).Sure⟩, g.Term, if g.Lead = r then -1 else g.Lead⟩, true) else (O5, false)
def startR (g : TGroup) (r : Int) : TGroup × Bool :=
  if isUp g r false = true then (⟨g.Reps.set r.toNat ⟨true, (repAt g r).Log, (repAt g r).Sure⟩, g.Term, g.Lead⟩, true) else (O5, false)
def V1 (l : List B8) : Int := match l.getLast? with | some e => e.Term | none => 0
def u3 (a b : List B8) : Bool := decide (V1 b < V1 a) || (V1 a == V1 b && decide (b.length < a.length))
def AI5 (g : TGroup) (p : C1 → Bool) : Bool := decide ((g.Reps.length : Int) < 2 * ((g.Reps.filter p).length : Int))
def electR (g : TGroup) (r : Int) : TGroup × Bool :=
  if (isUp g r true && !(g.Term == 200)) = true ∧ AI5 g (fun x => x.Up && !u3 x.Log (repAt g r).Log) = true then (⟨g.Reps, g.Term + 1, r⟩, true) else (O5, false)
def hasLead (g : TGroup) : Bool := goodGroup g && decide (0 ≤ g.Lead)
def N5 (g : TGroup) (r : E8) : TGroup × Bool :=
  if (hasLead g && goodRec r) = true ∧ (repAt g g.Lead).Log.length < 60 then (setRep g g.Lead ⟨(repAt g g.Lead).Up, (repAt g g.Lead).Log ++ [⟨g.Term, r⟩], (repAt g g.Lead).Sure⟩, true) else (O5, false)
def V7 (g : TGroup) (r : Int) : TGroup × Bool :=
  if (isUp g r true && decide (0 ≤ g.Lead)) = true ∧ g.Lead ≠ r then (setRep g r ⟨true, (repAt g g.Lead).Log, min ((repAt g g.Lead).Log.length : Int) (max (repAt g r).Sure (repAt g g.Lead).Sure)⟩, true) else (O5, false)
def begins (a b : List B8) (n : Nat) : Bool := decide (n ≤ a.length ∧ n ≤ b.length ∧ a.take n = b.take n)
def r8 (g : TGroup) (n : Nat) : Bool := decide ((((repAt g g.Lead).Log[n - 1]?).map B8.Term) = some g.Term) && AI5 g fun x => begins x.Log (repAt g g.Lead).Log n
def findDown (p : Nat → Bool) (lo : Nat) : Nat → Option Nat
  | 0 => none
  | n + 1 => if n + 1 ≤ lo then none else if p (n + 1) = true then some (n + 1) else findDown p lo n
def c8 (g : TGroup) : TGroup × Bool :=
  if hasLead g = true then (match findDown (r8 g) (repAt g g.Lead).Sure.toNat (repAt g g.Lead).Log.length with
    | some n => (setRep g g.Lead ⟨(repAt g g.Lead).Up, (repAt g g.Lead).Log, (n : Int)⟩, true)
    | none => (g, true)) else (O5, false)
theorem AM2 {p : Nat → Bool} {lo : Nat} : ∀ {k n : Nat}, findDown p lo k = some n → lo < n ∧ n ≤ k ∧ p n = true
  | 0, n, h => by cases h
  | k + 1, n, h => by
    unfold findDown at h
    split at h
    · cases h
    · split at h
      · injection h with h; subst h; exact ⟨by omega, Nat.le_refl _, ‹_›⟩
      · have := AM2 h; exact ⟨this.1, by omega, this.2.2⟩
theorem U9 {g : TGroup} {r : Int} {up : Bool} : isUp g r up = true ↔ GG g ∧ (0 ≤ r ∧ r < g.Reps.length) ∧ (repAt g r).Up = up := by
  unfold isUp
  rw [Bool.and_eq_true, Bool.and_eq_true, S0, z5, beq_iff_eq]
  constructor
  · rintro ⟨⟨a, b⟩, c⟩; exact ⟨a, b, c⟩
  · rintro ⟨a, b, c⟩; exact ⟨⟨a, b⟩, c⟩
theorem Y8 {g : TGroup} : hasLead g = true ↔ GG g ∧ 0 ≤ g.Lead ∧ g.Lead < g.Reps.length ∧ (repAt g g.Lead).Up = true := by
  unfold hasLead
  rw [Bool.and_eq_true, S0, decide_eq_true_eq]
  constructor
  · rintro ⟨a, b⟩
    rcases a.lead with h | ⟨h1, h2, h3⟩
    · omega
    · exact ⟨a, h1, h2, h3⟩
  · rintro ⟨a, b, _⟩; exact ⟨a, b⟩
theorem AH9 {g : TGroup} {r : Int} {x : C1} {t l : Int} (h : 0 ≤ r ∧ r < g.Reps.length) : repAt ⟨g.Reps.set r.toNat x, t, l⟩ r = x := by
  unfold repAt
  dsimp only
  rw [List.getElem?_set_self qz5]; rfl
theorem AD0 {g : TGroup} {r q : Int} {x : C1} {t l : Int} (hr : 0 ≤ r) (hq : 0 ≤ q) (h : q ≠ r) : repAt ⟨g.Reps.set r.toNat x, t, l⟩ q = repAt g q := by
  unfold repAt
  dsimp only
  rw [List.getElem?_set_ne qz5]
theorem gr_mono {r : C1} {t u : Int} (h : GR r t) (k : t ≤ u) : GR r u := ⟨h.len, h.sure, fun e he => by have := h.ents e he; exact ⟨this.1, by omega, this.2.2⟩, h.sorted⟩
theorem AY7 {g : TGroup} (h : GG g) {r : Int} {x : C1} (hx : GR x g.Term) : ∀ y ∈ g.Reps.set r.toNat x, GR y g.Term := fun y hy => by
  rcases List.mem_or_eq_of_mem_set hy with hy | rfl
  · exact h.reps y hy
  · exact hx
theorem BD7 {g : TGroup} {r : Int} (h : (crashR g r).2 = true) : GG (crashR g r).1 ∧ (crashR g r).1.Reps.length = g.Reps.length := by
  unfold crashR at h ⊢
  by_cases hc : isUp g r true = true
  · rw [if_pos hc] at h ⊢
    obtain ⟨gg, hr, hu⟩ := U9.1 hc
    have hg := gg.reps _ (Z9 hr)
    refine ⟨⟨?_, gg.term, ?_, AY7 gg ⟨hg.len, hg.sure, hg.ents, hg.sorted⟩⟩, List.length_set ..⟩
    · show (g.Reps.set _ _).length = 3 ∨ (g.Reps.set _ _).length = 5
      rw [List.length_set]; exact gg.many
    · dsimp only
      by_cases hl : g.Lead = r
      · rw [if_pos hl]; exact .inl rfl
      · rw [if_neg hl]
        rcases gg.lead with e | ⟨a, b, c⟩
        · exact .inl e
        · refine .inr ⟨a, by rw [List.length_set]; exact b, ?_⟩
          have := AD0 (g := g) (x := ⟨false, (repAt g r).Log, (repAt g r).Sure⟩) (t := g.Term) (l := g.Lead) hr.1 a hl
          rw [this]; exact c
  · rw [if_neg hc] at h; cases h
theorem BD8 {g : TGroup} {r : Int} (h : (startR g r).2 = true) : GG (startR g r).1 ∧ (startR g r).1.Reps.length = g.Reps.length := by
  unfold startR at h ⊢
  by_cases hc : isUp g r false = true
  · rw [if_pos hc] at h ⊢
    obtain ⟨gg, hr, hu⟩ := U9.1 hc
    have hg := gg.reps _ (Z9 hr)
    refine ⟨⟨?_, gg.term, ?_, AY7 gg ⟨hg.len, hg.sure, hg.ents, hg.sorted⟩⟩, List.length_set ..⟩
    · show (g.Reps.set _ _).length = 3 ∨ (g.Reps.set _ _).length = 5
      rw [List.length_set]; exact gg.many
    · dsimp only
      rcases gg.lead with e | ⟨a, b, c⟩
      · exact .inl e
      · refine .inr ⟨a, by rw [List.length_set]; exact b, ?_⟩
        by_cases hl : g.Lead = r
        · rw [hl] at c; rw [hu] at c; cases c
        · have := AD0 (g := g) (x := ⟨true, (repAt g r).Log, (repAt g r).Sure⟩) (t := g.Term) (l := g.Lead) hr.1 a hl
          rw [this]; exact c
  · rw [if_neg hc] at h; cases h
theorem BD9 {g : TGroup} {r : Int} (h : (electR g r).2 = true) : GG (electR g r).1 ∧ (electR g r).1.Reps.length = g.Reps.length ∧ (electR g r).1.Lead = r ∧ 0 ≤ r ∧ r < g.Reps.length := by
  unfold electR at h ⊢
  split at h
  · rename_i hc
    rw [if_pos hc]
    rw [Bool.and_eq_true, Bool.not_eq_true', beq_eq_false_iff_ne] at hc
    obtain ⟨gg, hr, hu⟩ := U9.1 hc.1.1
    have ht := gg.term
    exact ⟨⟨gg.many, by dsimp only; omega, .inr ⟨hr.1, hr.2, hu⟩, fun y hy => gr_mono (gg.reps y hy) (by dsimp only; omega)⟩, rfl, rfl, hr.1, hr.2⟩
  · cases h
theorem w3 {g : TGroup} (gg : GG g) {r : Int} (hr : 0 ≤ r ∧ r < g.Reps.length) {x : C1} (hx : GR x g.Term) (hu : x.Up = (repAt g r).Up) : GG (setRep g r x) := by
  refine ⟨?_, gg.term, ?_, AY7 gg hx⟩
  · show (g.Reps.set _ _).length = 3 ∨ (g.Reps.set _ _).length = 5
    rw [List.length_set]; exact gg.many
  · show g.Lead = -1 ∨ (0 ≤ g.Lead ∧ g.Lead < ((g.Reps.set r.toNat x).length : Int) ∧ (repAt ⟨g.Reps.set r.toNat x, g.Term, g.Lead⟩ g.Lead).Up = true)
    rcases gg.lead with e | ⟨a, b, c⟩
    · exact .inl e
    · refine .inr ⟨a, by rw [List.length_set]; exact b, ?_⟩
      by_cases hl : g.Lead = r
      · have := AH9 (g := g) (x := x) (t := g.Term) (l := g.Lead) hr
        rw [hl] at c this ⊢
        rw [this, hu]; exact c
      · have := AD0 (g := g) (x := x) (t := g.Term) (l := g.Lead) hr.1 a hl
        rw [this]; exact c
theorem c3 (g : TGroup) (r : Int) (x : C1) : (setRep g r x).Reps.length = g.Reps.length := List.length_set ..
theorem BJ7 {g : TGroup} {r : E8} (ht : 1 ≤ g.Term) (h : (N5 g r).2 = true) : GG (N5 g r).1 ∧ (N5 g r).1.Reps.length = g.Reps.length ∧ (N5 g r).1.Lead = g.Lead := by
  unfold N5 at h ⊢
  split at h
  · rename_i hc
    rw [if_pos hc]
    rw [Bool.and_eq_true] at hc
    obtain ⟨gg, h1, h2, h3⟩ := Y8.1 hc.1.1
    have hg := gg.reps _ (Z9 ⟨h1, h2⟩)
    refine ⟨w3 gg ⟨h1, h2⟩ ⟨?_, ?_, fun e he => ?_, ?_⟩ rfl, c3 .., rfl⟩
    · rw [D5]; have := hc.2; simp; omega
    · have := hg.sure; rw [D5]; simp; omega
    · rcases List.mem_append.1 he with he | he
      · exact hg.ents e he
      · rw [List.mem_singleton.1 he]
        exact ⟨ht, Int.le_refl _, hc.1.2⟩
    · rw [List.pairwise_append]
      exact ⟨hg.sorted, List.pairwise_singleton _ _, fun a ha b hb => by rw [List.mem_singleton.1 hb]; exact (hg.ents a ha).2.1⟩
  · cases h
theorem BJ8 {g : TGroup} {r : Int} (h : (V7 g r).2 = true) : GG (V7 g r).1 ∧ (V7 g r).1.Reps.length = g.Reps.length ∧ (V7 g r).1.Lead = g.Lead := by
  unfold V7 at h ⊢
  split at h
  · rename_i hc
    rw [if_pos hc]
    rw [Bool.and_eq_true, decide_eq_true_eq] at hc
    obtain ⟨gg, hr, hu⟩ := U9.1 hc.1.1
    have hl : 0 ≤ g.Lead ∧ g.Lead < g.Reps.length := by rcases gg.lead with e | ⟨a, b, _⟩; omega; exact ⟨a, b⟩
    have hg := gg.reps _ (Z9 hl)
    have hq := gg.reps _ (Z9 hr)
    refine ⟨w3 gg hr ⟨hg.len, ?_, hg.ents, hg.sorted⟩ hu.symm, c3 .., rfl⟩
    have h1 := hg.sure
    have h2 := hq.sure
    dsimp only
    omega
  · cases h
theorem adv_good {g : TGroup} (h : (c8 g).2 = true) : GG (c8 g).1 ∧ (c8 g).1.Reps.length = g.Reps.length ∧ (c8 g).1.Lead = g.Lead := by
  unfold c8 at h ⊢
  split at h
  · rename_i hc
    rw [if_pos hc]
    obtain ⟨gg, h1, h2, h3⟩ := Y8.1 hc
    have hg := gg.reps _ (Z9 ⟨h1, h2⟩)
    split
    · rename_i n hn
      have := AM2 hn
      exact ⟨w3 gg ⟨h1, h2⟩ ⟨hg.len, ⟨by dsimp only; omega, by dsimp only; omega⟩, hg.ents, hg.sorted⟩ rfl, c3 .., rfl⟩
    · exact ⟨gg, rfl, rfl⟩
  · cases h
theorem AL2 {g : TGroup} {r : Int} : ((crashR g r).2 = true → (crashR g r).1.Term = g.Term) ∧ ((startR g r).2 = true → (startR g r).1.Term = g.Term) ∧ ((electR g r).2 = true → (electR g r).1.Term = g.Term + 1) ∧ ((V7 g r).2 = true → (V7 g r).1.Term = g.Term) := by
  unfold crashR startR electR V7 setRep
  refine ⟨?_, ?_, ?_, ?_⟩ <;> (split <;> intro h <;> first | rfl | cases h)
theorem BJ9 {g : TGroup} {r : E8} (h : (N5 g r).2 = true) : (N5 g r).1.Term = g.Term := by
  unfold N5 setRep at *
  split <;> first | rfl | (rename_i hc; rw [if_neg hc] at h; cases h)
theorem adv_term {g : TGroup} (h : (c8 g).2 = true) : (c8 g).1.Term = g.Term := by
  unfold c8 setRep at *
  split at h
  · rw [if_pos ‹_›]; split <;> rfl
  · cases h
theorem BE0 {g : TGroup} {r : Int} (h : (crashR g r).2 = true) : (crashR g r).1.Lead = -1 ∨ (crashR g r).1.Lead = g.Lead := by
  unfold crashR at h ⊢
  split at h
  · rw [if_pos ‹_›]; dsimp only; split; exact .inl rfl; exact .inr rfl
  · cases h
theorem BE1 {g : TGroup} {r : Int} (h : (startR g r).2 = true) : (startR g r).1.Lead = g.Lead := by
  unfold startR at h ⊢
  split at h
  · rw [if_pos ‹_›]
  · cases h
def LogsP (P : E8 → Prop) (g : TGroup) : Prop := ∀ r ∈ g.Reps, ∀ e ∈ r.Log, P e.Rec
def KeysIn (r : E8) : Prop := ∀ w ∈ r.Writes, w.Key ∈ keyD
structure WG (g : TGroup) : Prop where
  good : GG g
  three : g.Reps.length = 3
  led : 0 ≤ g.Lead → 1 ≤ g.Term
  keys : LogsP KeysIn g
def AS3 : B8 := ⟨0, V2⟩
def L8 (e : B8) : Bool := within e.Term 1 200 && goodRec e.Rec
def entB (e : B8) : Str := numB e.Term.toNat ++ recB e.Rec
def N1 (e : B8) : Str × Bool := if L8 e = true then (entB e, true) else ([], false)
noncomputable def K0 (b : Str) : B8 × Bool := match numP b with
  | none => (AS3, false)
  | some (n, k) => if within (n : Int) 1 200 = true ∧ (readRecR (b.drop k)).2 = true then (⟨n, (readRecR (b.drop k)).1⟩, true) else (AS3, false)
noncomputable def entsOf : List Str → Option (List B8)
  | [] => some []
  | f :: l => if (K0 f).2 = true then (entsOf l).map ((K0 f).1 :: ·) else none
noncomputable def entsR (l : List Str) : List B8 × Bool := match entsOf l with
  | some x => (x, true)
  | none => ([], false)
noncomputable def onDiskR (d : G6) : List B8 × Bool := if goodDisk d = true then entsR (framesB (d.Kept ++ d.Loose)).1 else ([], false)
theorem m7 {e : B8} (h : L8 e = true) : (entB e).length ≤ 460 := by
  unfold L8 at h
  rw [Bool.and_eq_true] at h
  have h1 := AY5 (Z0 h.2)
  have h2 : within e.Term 1 200 = true := h.1
  unfold within at h2
  rw [Bool.and_eq_true, decide_eq_true_eq, decide_eq_true_eq] at h2
  have h3 := Q9 (n := e.Term.toNat) qz5
  unfold entB
  rw [D5]; omega
theorem Ac2 {e : B8} (h : L8 e = true) : K0 (entB e) = (e, true) := by
  unfold L8 at h
  rw [Bool.and_eq_true] at h
  have h2 : within e.Term 1 200 = true := h.1
  have h3 := h2
  unfold within at h3
  rw [Bool.and_eq_true, decide_eq_true_eq, decide_eq_true_eq] at h3
  unfold K0 entB
  rw [i0 qz5]
  dsimp only
  rw [List.drop_left, AG6 h.2]
  rw [show ((e.Term.toNat : Nat) : Int) = e.Term by omega, if_pos ⟨h2, rfl⟩]
theorem Av4 : K0 [] = (AS3, false) := by
  unfold K0
  rw [AY3 (p := []) (by intro b hb; cases hb)]
theorem BK0 {e : B8} (h : L8 e = true) : entsR [entB e] = ([e], true) := by
  unfold entsR entsOf entsOf
  rw [Ac2 h]
  rfl
theorem BE2 {e : B8} (h : L8 e = true) : writeD T9 (entB e) = (⟨[], frameB (entB e)⟩, true) := by
  have := m7 h
  have hf := Q4 (entB e)
  have h5 := Q9 (n := (entB e).length) qz5
  rw [BJ5 (d := T9) (AL1 B5) qz5 (by show 0 + 0 + (frameB (entB e)).length ≤ _; omega)]
  rfl
theorem Ag1 {e : B8} (h : L8 e = true) : onDiskR ⟨[], frameB (entB e)⟩ = ([e], true) := by
  have := m7 h
  have hf := Q4 (entB e)
  have h5 := Q9 (n := (entB e).length) qz5
  unfold onDiskR
  rw [if_pos (AL1 (by show 0 + (frameB (entB e)).length ≤ _; omega))]
  show entsR (framesB ([] ++ frameB (entB e))).1 = _
  have e1 := Ab7 [entB e] (by intro t ht; rw [List.mem_singleton.1 ht]; omega)
  rw [List.map_cons, List.map_nil, List.flatten_cons, List.flatten_nil, List.append_nil] at e1
  rw [List.nil_append, e1]
  exact BK0 h
theorem Ac3 {l : List Str} {i : Nat} {f : Str} (hf : l[i]? = some f) (h : (K0 f).2 = false) : entsOf l = none := by
  induction l generalizing i with
  | nil => cases hf
  | cons g l ih =>
    unfold entsOf
    split
    · rename_i hg
      cases i with
      | zero => injection hf with hf; subst hf; rw [h] at hg; cases hg
      | succ i => rw [ih (i := i) (by simpa using hf)]; rfl
    · rfl
theorem AW0 {l : List Str} {i : Nat} {f : Str} {x : List B8} (hf : l[i]? = some f) (hx : entsOf (l.take i) = some x) (h : (K0 f).2 = true) : entsOf (l.take (i + 1)) = some (x ++ [(K0 f).1]) := by
  induction l generalizing i x with
  | nil => cases hf
  | cons g l ih =>
    cases i with
    | zero =>
      injection hf with hf; subst hf
      rw [List.take_zero] at hx
      unfold entsOf at hx; injection hx with hx; subst hx
      show entsOf (g :: List.take 0 l) = _
      rw [List.take_zero]
      unfold entsOf; rw [if_pos h]; rfl
    | succ i =>
      rw [AS4] at hx ⊢
      unfold entsOf at hx ⊢
      split at hx
      · rename_i hg
        rw [if_pos hg]
        cases hl : entsOf (l.take i) with
        | none => rw [hl] at hx; cases hx
        | some y =>
          rw [hl] at hx; injection hx with hx; subst hx
          rw [ih (i := i) (by simpa using hf) hl]; rfl
      · cases hx
theorem Av5 {b : Str} : (K0 b).2 = true → ∃ r, goodRec r = true ∧ (K0 b).1.Rec = r := by
  unfold K0
  split
  · intro h; cases h
  · rename_i n k _
    split
    · rename_i hc
      intro _
      rcases Af9 (b.drop k) with e | ⟨r, e, hr, _⟩
      · rw [e] at hc; cases hc.2
      · exact ⟨r, hr, by rw [e]⟩
    · intro h; cases h
def P1 : THouse := ⟨O5, []⟩
structure HI (h : THouse) : Prop where
  gg : GG h.Group
  term : 0 ≤ h.Group.Lead → 1 ≤ h.Group.Term
  len : h.Disks.length = h.Group.Reps.length
  disks : ∀ d ∈ h.Disks, d.size ≤ 60000
structure AU6 (h : THouse) : Prop where
  gg : GG h.Group
  len : h.Disks.length = h.Group.Reps.length
  disks : ∀ d ∈ h.Disks, d = T9
  logs : ∀ r ∈ h.Group.Reps, r.Log = []
def entAt (l : List B8) (n : Nat) : B8 := (l[n]?).getD AS3
theorem BK1 {l : List B8} {n : Nat} (h : n < l.length) : l[n]? = some (entAt l n) := by
  unfold entAt; rw [List.getElem?_eq_getElem h]; rfl
noncomputable def AC0 (d : G6) (r : C1) (t : Int) : Bool :=
  if ((!(onDiskR d).2 || (d.Loose != [])) || !begins (onDiskR d).1 r.Log r.Log.length) = true then false
  else if (r.Up || decide ((onDiskR d).1.length = r.Log.length)) = true then (decide ((onDiskR d).1.length = r.Log.length) && (!r.Up || decide ((framesB d.Kept).2 = d.Kept.length)))
  else decide ((onDiskR d).1.length = r.Log.length + 1) && within (entAt (onDiskR d).1 r.Log.length).Term (V1 r.Log) t
theorem AW1 : ∀ {l : List Str} {x : List B8}, entsOf l = some x → ∀ e ∈ x, goodRec e.Rec = true
  | [], x, h, e, he => by unfold entsOf at h; injection h with h; subst h; cases he
  | f :: l, x, h, e, he => by
    unfold entsOf at h
    split at h
    · rename_i hf
      cases hl : entsOf l with
      | none => rw [hl] at h; cases h
      | some y =>
        rw [hl] at h; injection h with h; subst h
        rcases List.mem_cons.1 he with rfl | he
        · obtain ⟨r, hr, hr2⟩ := Av5 hf
          rw [hr2]; exact hr
        · exact AW1 hl e he
    · cases h
theorem w4 {d : G6} {e : B8} (h : e ∈ (onDiskR d).1) : goodRec e.Rec = true := by
  unfold onDiskR entsR at h
  split at h
  · split at h
    · exact AW1 ‹_› e h
    · cases h
  · cases h
def E5 (g : TGroup) (a : N8) : TGroup × Bool :=
  if a.Kind = 1 then crashR g a.Rep else if a.Kind = 2 then startR g a.Rep else if a.Kind = 3 then electR g a.Rep else if a.Kind = 4 then N5 g a.Rec else if a.Kind = 5 then V7 g a.Rep else if a.Kind = 6 then c8 g else (O5, false)
structure AZ7 (g v : TGroup) : Prop where
  gg : GG v
  len : v.Reps.length = g.Reps.length
  term : 0 ≤ v.Lead → 1 ≤ v.Term
theorem AD1 {g : TGroup} {r : E8} (h : (N5 g r).2 = true) : 0 ≤ g.Lead ∧ g.Lead < g.Reps.length ∧ (N5 g r).1.Lead = g.Lead := by
  unfold N5 at h ⊢
  split at h
  · rename_i hc
    rw [if_pos hc]
    rw [Bool.and_eq_true] at hc
    have := Y8.1 hc.1.1
    exact ⟨this.2.1, this.2.2.1, rfl⟩
  · cases h
theorem AQ2 {g : TGroup} {r : Int} (h : (startR g r).2 = true) : 0 ≤ r ∧ r < g.Reps.length ∧ (repAt (startR g r).1 r).Up = true := by
  unfold startR at h ⊢
  split at h
  · rename_i hc
    rw [if_pos hc]
    have := (U9.1 hc).2.1
    exact ⟨this.1, this.2, by rw [AH9 this]⟩
  · cases h
theorem AY8 {g : TGroup} {r : Int} (h : (V7 g r).2 = true) : 0 ≤ r ∧ r < g.Reps.length := by
  unfold V7 at h
  split at h
  · rename_i hc
    rw [Bool.and_eq_true] at hc
    exact (U9.1 hc.1.1).2.1
  · cases h
theorem BA3 {g : TGroup} {a : N8} (hg : GG g) (ht : 0 ≤ g.Lead → 1 ≤ g.Term) : (E5 g a).2 = true → AZ7 g (E5 g a).1 := by
  unfold E5
  split
  · intro h
    have h1 := BD7 h
    refine ⟨h1.1, h1.2, fun hl => ?_⟩
    rw [(AL2 (g := g) (r := a.Rep)).1 h]
    rcases BE0 h with e | e <;> rw [e] at hl
    · omega
    · exact ht hl
  split
  · intro h
    have h1 := BD8 h
    refine ⟨h1.1, h1.2, fun hl => ?_⟩
    rw [(AL2 (g := g) (r := a.Rep)).2.1 h]
    rw [BE1 h] at hl
    exact ht hl
  split
  · intro h
    have h1 := BD9 h
    refine ⟨h1.1, h1.2.1, fun hl => ?_⟩
    rw [(AL2 (g := g) (r := a.Rep)).2.2.1 h]
    have := hg.term
    omega
  split
  · intro h
    have h0 := AD1 h
    have h1 := BJ7 (ht h0.1) h
    exact ⟨h1.1, h1.2.1, fun _ => by rw [BJ9 h]; exact ht h0.1⟩
  split
  · intro h
    have h1 := BJ8 h
    refine ⟨h1.1, h1.2.1, fun hl => ?_⟩
    rw [(AL2 (g := g) (r := a.Rep)).2.2.2 h]
    rw [h1.2.2] at hl
    exact ht hl
  split
  · intro h
    have h1 := adv_good h
    refine ⟨h1.1, h1.2.1, fun hl => ?_⟩
    rw [adv_term h]
    rw [h1.2.2] at hl
    exact ht hl
  · intro h; cases h
theorem W6 {h : THouse} {v : TGroup} (hh : HI h) (k : AZ7 h.Group v) {i : Nat} {d : G6} (hd : d.size ≤ 60000) : HI ⟨v, h.Disks.set i d⟩ := ⟨k.gg, k.term, by dsimp only; rw [List.length_set, hh.len, k.len], fun x hx => by
  rcases List.mem_or_eq_of_mem_set hx with hx | rfl
  · exact hh.disks x hx
  · exact hd⟩
theorem hi_do {h : THouse} {v : TGroup} (hh : HI h) (k : AZ7 h.Group v) : HI ⟨v, h.Disks⟩ := ⟨k.gg, k.term, by dsimp only; rw [hh.len, k.len], hh.disks⟩
theorem Aq8 {g v : TGroup} (k : AZ7 g v) {r : Int} {x : C1} (hr : 0 ≤ r ∧ r < v.Reps.length) (hx : goodRep x v.Term = true) (hu : x.Up = (repAt v r).Up) : AZ7 g (setRep v r x) := ⟨w3 k.gg hr (AV9.1 hx) hu, (c3 ..).trans k.len, k.term⟩
theorem Av6 {e : G6} (h : e = T9) : onDiskR e = ([], true) ∧ (framesB e.Kept).2 = 0 := by
  subst h
  have e0 : framesB ([] : Str) = ([], 0) := by
    have := Ab7 [] (by intro t ht; cases ht)
    simpa using this
  refine ⟨?_, by show (framesB []).2 = 0; rw [e0]⟩
  unfold onDiskR
  rw [if_pos (AL1 B5)]
  show entsR (framesB ([] ++ [])).1 = _
  rw [List.nil_append, e0]; rfl
theorem BE3 {d : G6} {r : C1} {t : Int} (hd : d = T9) (hl : r.Log = []) : AC0 d r t = true := by
  obtain ⟨h1, h2⟩ := Av6 hd
  unfold AC0
  rw [h1, h2, hl, hd]
  cases r.Up <;> rfl
def newH (n : Nat) (t r : Int) : THouse := ⟨⟨List.replicate n ⟨true, [], 0⟩, t, r⟩, List.replicate n T9⟩
theorem z6 {n : Nat} {r t : Int} (hn : n = 3 ∨ n = 5) (hr : r = -1 ∨ (0 ≤ r ∧ r < n)) (ht : 0 ≤ t ∧ t ≤ 200) : GG ⟨List.replicate n ⟨true, [], 0⟩, t, r⟩ := by
  refine ⟨by dsimp only; rw [List.length_replicate]; exact hn, by dsimp only; omega, ?_, fun x hx => ?_⟩
  · rcases hr with hr | hr
    · exact .inl hr
    · refine .inr ⟨hr.1, by dsimp only; rw [List.length_replicate]; exact hr.2, ?_⟩
      unfold repAt; dsimp only
      rw [List.getElem?_replicate, if_pos qz5]; rfl
  · obtain ⟨_, rfl⟩ := List.mem_replicate.1 hx
    exact ⟨by decide, by decide, fun e he => (by cases he), List.Pairwise.nil⟩
theorem Y0 {n : Nat} {r t : Int} (hn : n = 3 ∨ n = 5) (hr : r = -1 ∨ (0 ≤ r ∧ r < n)) (ht : 0 ≤ t ∧ t ≤ 200) : AU6 (newH n t r) :=
  ⟨z6 hn hr ht, by unfold newH; dsimp only; rw [List.length_replicate, List.length_replicate], fun d hd => (List.mem_replicate.1 hd).2, fun x hx => by rw [(List.mem_replicate.1 hx).2]⟩
theorem Ac4 {n : Nat} {r t : Int} (hn : n = 3 ∨ n = 5) (hr : 0 ≤ r ∧ r < n) (ht : 1 ≤ t ∧ t ≤ 200) : HI (newH n t r) :=
  ⟨z6 hn (.inr hr) ⟨by omega, ht.2⟩, fun _ => ht.1, by unfold newH; dsimp only; rw [List.length_replicate, List.length_replicate], fun d hd => by rw [(List.mem_replicate.1 hd).2]; decide⟩
theorem BK2 {n : Nat} {r : Int} (hn : n = 3 ∨ n = 5) (hr : 0 ≤ r ∧ r < n) : electR (newH n 0 (-1)).Group r = ((newH n 1 r).Group, true) := by
  have hg : GG (newH n 0 (-1)).Group := z6 hn (.inl rfl) B5
  have ha : repAt (newH n 0 (-1)).Group r = ⟨true, [], 0⟩ := by
    unfold repAt newH; dsimp only
    rw [List.getElem?_replicate, if_pos qz5]; rfl
  unfold electR
  rw [if_pos]
  · rfl
  · refine ⟨?_, ?_⟩
    · rw [U9.2 ⟨hg, ⟨hr.1, by unfold newH; dsimp only; rw [List.length_replicate]; exact hr.2⟩, by rw [ha]⟩]; rfl
    · unfold AI5
      rw [ha]
      unfold newH; dsimp only
      rw [List.filter_replicate, if_pos B1, List.length_replicate, decide_eq_true_eq]
      omega
end Go.M
namespace Go.Proofs.YtkibefcceekmnaaGreat
open Go Go.AV Go.M
attribute [local irreducible] OpW OpA OpS AWP C0 I0 RetOk H5 Le Ev F6
theorem Y9 (a b c : Int) : C0 Tryz.prog 15 [AV.int a, AV.int b, AV.int c] (AV.bool (within a b c)) := by
  refine B3 Tryz.func15 rfl Tryz.ntmps15 rfl ?_
  refine R17 ?_
  exact F0 rfl (A4 rfl U5)
theorem M0 (a b c : Int) : C0 Tryz.prog 18 [AV.int a, AV.int b, AV.int c] (AV.bool (within a b c)) := by
  refine B3 Tryz.func18 rfl Tryz.ntmps18 rfl ?_
  refine R17 ?_
  exact F0 rfl (A4 rfl U5)
theorem Av7 (c : UInt8) : C0 Tryz.prog 126 [AV.byte c] (AV.bool (lowDig c)) := by
  refine B3 Tryz.func126 rfl Tryz.ntmps126 rfl ?_
  refine R23 ?_
  exact F0 rfl (A4 rfl U5)
theorem idxB_ext (s : Str) (c : UInt8) : I0 Tryz.prog 138 [AV.str s, AV.byte c] (AV.int (idxB s c)) := espec_mk fun R w vs h => by
  obtain ⟨v, u, rfl, h1, h2⟩ := denV_two h
  have e1 : v = .string ⟨s.toArray⟩ := h1
  have e2 : u = .int .u8 c.toNat := h2
  subst e1; subst e2
  refine ⟨.int .i64 (idxB s c), ?_, rfl⟩
  rw [run_callFunc_indexByte Tryz.func138 F9 F9 F9 F9, run_indexByte_string]
  simp [idxB]
theorem BE4 (s : Str) (c : UInt8) : C0 Tryz.prog 136 [AV.str s, AV.byte c] (AV.int (idxB s c)) := by
  refine B3 Tryz.func136 rfl Tryz.ntmps136 rfl ?_
  refine R8 ?_
  refine A2 rfl (w_ext rfl rfl (idxB_ext _ _) (A1 (A0 rfl) (A1 (A0 rfl) A3))) ?_
  refine R3 ?_
  exact F0 rfl (A4 rfl U5)
theorem BK3 (s : Str) (c : UInt8) : C0 Tryz.prog 127 [AV.str s, AV.byte c] (AV.int (idxB s c)) := by
  refine B3 Tryz.func127 rfl Tryz.ntmps127 rfl ?_
  refine R8 ?_
  refine A2 rfl (A8 rfl Tryz.call136 rfl (BE4 _ _) (A1 (A0 rfl) (A1 (A0 rfl) A3))) ?_
  refine R3 ?_
  exact F0 rfl (A4 rfl U5)
theorem Ak3 (s o : Str) (hs : s.length ≤ 4611686018427387904) : C0 Tryz.prog 107 [AV.str s, AV.str o] (AV.bool (hasB s o)) := by
 refine B3 Tryz.func107 rfl Tryz.ntmps107 rfl ?_
 refine R12 ?_
 refine H7 [(0, _), (1, _), (7, _)] _ (fun (i : Nat) => i ≤ s.length ∧ hasB s o = hasB (s.drop i) o) (fun (i : Nat) => []) (fun (i : Nat) => [(8, AV.int i)]) (fun (i : Nat) => s.length - i) (0) ?_ (G7 ⟨rfl, rfl, rfl, rfl, trivial⟩) ?_
 ·exact ⟨Nat.zero_le _, rfl⟩
 intro i hinv
 refine R5 ?_
 refine A6 (A0 rfl) ?_ ?_
 ·intro h9
  have k9 := of_decide_eq_true h9; try simp only [A5] at k9
  have hlt : i < s.length := by have := of_decide_eq_true h9; omega
  obtain ⟨c, hc⟩ := E7 hlt
  refine R12 ?_
  refine A2 rfl (X3 rfl C3 (A0 rfl) (A0 rfl) qz1 AF9) ?_
  refine A2 rfl (A8 rfl Tryz.call126 rfl (Av7 _) (A1 (A0 rfl) A3)) ?_
  refine R5 ?_
  refine K1 rfl (fun hc => X3 rfl C3 (B0 rfl hc) (B0 rfl hc) qz4 AF9) ?_
  refine K1 rfl (fun hc => A8 rfl Tryz.call127 rfl (BK3 _ _) (A1 (B0 rfl hc) (A1 (B0 rfl hc) A3))) ?_
  refine R3 ?_
  refine A6 (A0 rfl) ?_ ?_
  ·intro h23
   have hfin : hasB s o = false := by rw [hinv.2, drop_some hc, Aj4, h23]; rfl
   refine R5 ?_
   exact F0 rfl (A4 rfl (by first | exact congrArg AV.bool hfin.symm | exact congrArg AV.bool qz37))
  intro h23
  refine R5 ?_
  refine J2 i (i + 1) ?_ ?_ (G7 ⟨rfl, rfl, rfl, rfl, trivial⟩)
  ·exact ⟨by omega, by rw [hinv.2, drop_some hc, Aj4, h23]; rfl⟩
  omega
 intro h9
 have k9 := of_decide_eq_false h9; try simp only [A5] at k9
 have hge : s.length ≤ i := by have := of_decide_eq_false h9; omega
 refine R6 ?_
 exact F0 rfl (A4 rfl (by first | exact congrArg AV.bool hfin.symm | exact congrArg AV.bool qz37))
theorem AQ3 (s o : Str) (hs : s.length ≤ 4611686018427387904) (ho : o.length ≤ 4611686018427387904) : C0 Tryz.prog 110 [AV.str s, AV.str o] (AV.bool (l3Bytes s o)) := by
 refine B3 Tryz.func110 rfl Tryz.ntmps110 rfl ?_
 refine R10 ?_
 refine H7 [(0, _), (1, _)] _ (fun (i : Nat) => i ≤ s.length ∧ l3Bytes s o = l3Bytes (s.drop i) o) (fun (i : Nat) => []) (fun (i : Nat) => [(5, AV.int i)]) (fun (i : Nat) => s.length - i) (0) ?_ (G7 ⟨rfl, rfl, rfl, trivial⟩) ?_
 ·exact ⟨Nat.zero_le _, rfl⟩
 intro i hinv
 have hinv0 := hinv; clear hinv
 refine R8 ?_
 refine A6 (A0 rfl) ?_ ?_
 ·intro h11
  have k11 := of_decide_eq_true h11; try simp only [A5] at k11
  have hlt : i < s.length := by have := of_decide_eq_true h11; omega
  obtain ⟨c, hc⟩ := E7 hlt
  refine R7 ?_
  refine A2 rfl (X3 rfl C3 (A0 rfl) (A0 rfl) qz1 AF9) ?_
  refine R4 ?_
  refine K1 rfl (fun hc => X3 rfl C3 (B0 rfl hc) (B0 rfl hc) qz4 AF9) ?_
  refine R5 ?_
  refine L0 rfl (fun hc => X3 rfl C3 (B0 rfl hc) (B0 rfl hc) qz4 AF9) ?_
  refine R4 ?_
  refine X2 rfl rfl (S3 rfl rfl rfl) (fun hc => X3 rfl C3 (B0 rfl hc) (B0 rfl hc) qz4 AF9) ?_
  refine R11 ?_
  refine S8 [(0, _), (1, _), (5, _), (8, _), (9, _), (10, _), (11, _), (14, _), (15, _), (16, _), (17, _), (18, _), (23, _), (24, _), (35, _)] _ (fun (k : Nat) (b : Bool) => k ≤ o.length ∧ (lowDig c || o.any fun d => ((c.toNat : Int) == (d.toNat : Int))) = (b || (o.drop k).any fun d => ((c.toNat : Int) == (d.toNat : Int)))) (fun (k : Nat) (b : Bool) => []) (fun (k : Nat) (b : Bool) => [(6, AV.bool b), (7, AV.int k)]) (fun (k : Nat) (b : Bool) => o.length - k) (0) (lowDig c) ?_ (G7 ⟨rfl, rfl, rfl, rfl, rfl, rfl, rfl, rfl, rfl, rfl, rfl, rfl, rfl, rfl, rfl, rfl, rfl, trivial⟩) ?_
  ·exact ⟨Nat.zero_le _, rfl⟩
  intro k b hinv
  refine R8 ?_
  refine A6 (A0 rfl) ?_ ?_
  ·intro h39
   have k39 := of_decide_eq_true h39; try simp only [A5] at k39
   have hlt2 : k < o.length := by have := of_decide_eq_true h39; omega
   obtain ⟨d, hd⟩ := E7 hlt2
   refine R8 ?_
   refine M3 rfl (O7 rfl rfl rfl) (fun hc => X3 rfl C3 (B0 rfl hc) (B0 rfl hc) qz4 AF9) ?_
   refine R2 ?_
   refine M3 rfl (O7 rfl rfl rfl) (fun hc => X3 rfl C3 (B0 rfl hc) (B0 rfl hc) qz4 AF9) ?_
   refine R9 ?_
   refine N3 k b (k + 1) ((b || ((c.toNat : Int) == (d.toNat : Int)))) ?_ ?_ (G7 ⟨rfl, rfl, rfl, rfl, rfl, rfl, rfl, rfl, rfl, rfl, rfl, rfl, rfl, rfl, rfl, rfl, rfl, trivial⟩)
   ·exact ⟨by omega, by rw [hinv.2, drop_some hd, List.any_cons, Bool.or_assoc]⟩
   omega
  intro h39
  have k39 := of_decide_eq_false h39; try simp only [A5] at k39
  have hge2 : o.length ≤ k := by have := of_decide_eq_false h39; omega
  have hg : (lowDig c || o.any fun d => ((c.toNat : Int) == (d.toNat : Int))) = b := by rw [hinv.2, List.drop_eq_nil_of_le hge2]; simp
  refine R6 ?_
  refine A6 (A0 rfl) ?_ ?_
  ·intro h53
   have hfin : l3Bytes s o = false := by rw [hinv0.2, drop_some hc, AO8, hg]; cases b <;> simp_all
   refine R5 ?_
   exact F0 rfl (A4 rfl qz61)
  intro h53
  have hb : b = true := by cases b <;> simp_all
  refine R6 ?_
  refine J2 i (i + 1) ?_ ?_ (G7 ⟨rfl, rfl, rfl, trivial⟩)
  ·exact ⟨by omega, by rw [hinv0.2, drop_some hc, AO8, hg, hb]; rfl⟩
  omega
 intro h11
 have k11 := of_decide_eq_false h11; try simp only [A5] at k11
 have hge : s.length ≤ i := by have := of_decide_eq_false h11; omega
 refine R6 ?_
 exact F0 rfl (A4 rfl qz61)
theorem Aq9 (s : Str) (hs : s.length ≤ 4611686018427387904) : C0 Tryz.prog 72 [AV.str s] (AV.bool (goodKey s)) := by
  refine B3 Tryz.func72 rfl Tryz.ntmps72 rfl ?_
  refine R8 ?_
  refine A2 rfl (A8 rfl Tryz.call15 rfl (Y9 _ _ _) (A1 (A0 rfl) (A1 D6 (A1 D6 A3)))) ?_
  refine R2 ?_
  refine K1 rfl (fun hc => A8 rfl Tryz.call107 rfl (Ak3 _ _ qz5) (A1 (B0 rfl hc) (A1 (D4 (l := [46, 47]) rfl) A3))) ?_
  refine R4 ?_
  exact F0 rfl (A4 rfl U5)
theorem Ar0 (s : Str) (hs : s.length ≤ 4611686018427387904) : C0 Tryz.prog 109 [AV.str s] (AV.bool (goodVal s)) := by
  refine B3 Tryz.func109 rfl Tryz.ntmps109 rfl ?_
  refine R11 ?_
  refine K1 rfl (fun hc => A8 rfl Tryz.call107 rfl (Ak3 _ _ qz5) (A1 (B0 rfl hc) (A1 (D4 (l := [46, 45, 44, 95]) rfl) A3))) ?_
  refine R4 ?_
  exact F0 rfl (A4 rfl U5)
theorem Ac5 (s : Str) (hs : s.length ≤ 4611686018427387904) : C0 Tryz.prog 80 [AV.str s] (AV.bool (l3Key s)) := by
  refine B3 Tryz.func80 rfl Tryz.ntmps80 rfl ?_
  refine R8 ?_
  refine A2 rfl (A8 rfl Tryz.call18 rfl (M0 _ _ _) (A1 (A0 rfl) (A1 D6 (A1 D6 A3)))) ?_
  refine R2 ?_
  refine K1 rfl (fun hc => A8 rfl Tryz.call110 rfl (AQ3 _ _ qz5 B5) (A1 (B0 rfl hc) (A1 (D4 (l := [46, 47]) rfl) A3))) ?_
  refine R4 ?_
  exact F0 rfl (A4 rfl U5)
theorem AM8 (l : List B4) (pre : B4 → Prop) (f : B4 → Bool) (hp : ∀ x ∈ l, pre x) : C0 Tryz.prog 108 [AV.list 3 (l.map B4.cs), AV.fun1 Tryz.prog pre (fun a => AV.agg a.cs) (fun a => AV.bool (f a))] (AV.int (idxFrom f l 0)) := by
 refine B3 Tryz.func108 rfl Tryz.ntmps108 rfl ?_
 refine Z2 (t := 0) rfl fun hl => ?_
 try simp only [A5] at hl
 refine R12 ?_
 refine H7 [(0, _), (1, _), (7, _)] _ (fun (i : Nat) => i ≤ l.length ∧ idxFrom f l 0 = idxFrom f (l.drop i) i) (fun (i : Nat) => []) (fun (i : Nat) => [(8, AV.int i)]) (fun (i : Nat) => l.length - i) (0) ?_ (G7 ⟨rfl, rfl, rfl, rfl, trivial⟩) ?_
 ·exact ⟨Nat.zero_le _, rfl⟩
 intro i hinv
 refine R5 ?_
 refine A6 (A0 rfl) ?_ ?_
 ·intro h9
  have k9 := of_decide_eq_true h9; try simp only [A5] at k9
  have hlt : i < l.length := by omega
  obtain ⟨x, hx⟩ := E7 hlt
  refine R13 ?_
  refine A2 rfl (F1 rfl I3 L1 (A0 rfl) (A0 rfl) hx qz1) ?_
  refine R1 ?_
  refine A2 rfl (w_callv1 rfl (A0 rfl) x (hp x (C6 hx)) (A0 rfl)) ?_
  refine R1 ?_
  refine A6 (A0 rfl) ?_ ?_
  ·intro h16
   refine R6 ?_
   exact F0 rfl (A4 rfl qz63)
  intro h16
  refine R5 ?_
  refine J2 i (i + 1) ?_ ?_ (G7 ⟨rfl, rfl, rfl, rfl, trivial⟩)
  ·exact ⟨by omega, by rw [hinv.2, drop_some hx, idxFrom, h16]; simp⟩
  omega
 intro h9
 have k9 := of_decide_eq_false h9; try simp only [A5] at k9
 have hge : l.length ≤ i := by omega
 refine R6 ?_
 exact F0 rfl (A4 rfl qz63)
theorem AG8 (l : List B4) (pre : B4 → Prop) (f : B4 → Bool) (hp : ∀ x ∈ l, pre x) : C0 Tryz.prog 74 [AV.list 3 (l.map B4.cs), AV.fun1 Tryz.prog pre (fun a => AV.agg a.cs) (fun a => AV.bool (f a))] (AV.bool (l.any f)) := by
  refine B3 Tryz.func74 rfl Tryz.ntmps74 rfl ?_
  refine R8 ?_
  refine A2 rfl (A8 rfl Tryz.call108 rfl (AM8 _ _ _ qz72) (A1 (A0 rfl) (A1 (A0 rfl) A3))) ?_
  refine R4 ?_
  exact F0 rfl (A4 rfl (by exact congrArg AV.bool (AV2 f l 0 (Int.le_refl 0))))
theorem l8 (t : Int) : C0 Tryz.prog 40 [AV.int t] (AV.bool (isTime t)) := by
  refine B3 Tryz.func40 rfl Tryz.ntmps40 rfl ?_
  refine R7 ?_
  refine A2 rfl (A8 rfl Tryz.call15 rfl (Y9 _ _ _) (A1 (A0 rfl) (A1 D6 (A1 D6 A3)))) ?_
  refine R3 ?_
  exact F0 rfl (A4 rfl U5)
theorem Am0 (s : Str) (g : Bool) (hs : s.length ≤ 4611686018427387904) : C0 Tryz.prog 76 [AV.str s, AV.bool g] (AV.bool (isStored s g)) := by
  refine B3 Tryz.func76 rfl Tryz.ntmps76 rfl ?_
  refine R7 ?_
  refine A2 rfl (A8 rfl Tryz.call109 rfl (Ar0 _ qz5) (A1 (A0 rfl) A3)) ?_
  refine R4 ?_
  refine X2 rfl rfl (S3 rfl rfl rfl) (fun hc => Aa4 rfl (B0 rfl hc) (D4 (l := []) rfl)) ?_
  refine R6 ?_
  exact F0 rfl (A4 rfl U5)
theorem BE5 (s : Str) (hs : s.length ≤ 4611686018427387904) : C0 Tryz.prog 111 [AV.str s] (AV.bool (l3Val s)) := by
  refine B3 Tryz.func111 rfl Tryz.ntmps111 rfl ?_
  refine R11 ?_
  refine K1 rfl (fun hc => A8 rfl Tryz.call110 rfl (AQ3 _ _ qz5 B5) (A1 (B0 rfl hc) (A1 (D4 (l := [46, 45, 44, 95]) rfl) A3))) ?_
  refine R4 ?_
  exact F0 rfl (A4 rfl U5)
theorem Ar1 (k s : Str) (g : Bool) (hk : k.length ≤ 4611686018427387904) (hs : s.length ≤ 4611686018427387904) : C0 Tryz.prog 81 [AV.str k, AV.str s, AV.bool g] (AV.bool (l3Write k s g)) := by
  refine B3 Tryz.func81 rfl Tryz.ntmps81 rfl ?_
  refine R7 ?_
  refine A2 rfl (A8 rfl Tryz.call80 rfl (Ac5 _ qz5) (A1 (A0 rfl) A3)) ?_
  refine R2 ?_
  refine K1 rfl (fun hc => A8 rfl Tryz.call111 rfl (BE5 _ qz5) (A1 (B0 rfl hc) A3)) ?_
  refine R6 ?_
  refine X2 rfl rfl (Ao7 rfl rfl rfl) (fun hc => Aa3 rfl (B0 rfl hc) (D4 (l := []) rfl)) ?_
  refine R5 ?_
  exact F0 rfl (A4 rfl U5)
end Go.Proofs.YtkibefcceekmnaaGreat
