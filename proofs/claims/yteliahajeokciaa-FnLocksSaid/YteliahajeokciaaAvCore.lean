/- A logic of abstract values over the kit's weakest preconditions: states, control flow, regions. -/
import Derived.Still
import Derived.Below
import Derived.WalkKit
namespace Go.AV
open Go.RowKit (Below)

abbrev RHeap := Nat → Option Obj
def RLe (R : RHeap) (w : World) : Prop := ∀ b o, R b = some o → w.heap[b]? = some o
def RSub (R R' : RHeap) : Prop := ∀ b o, R b = some o → R' b = some o
theorem RSub.refl (R : RHeap) : RSub R R := fun _ _ h => h
theorem RSub.trans {A B C : RHeap} (h : RSub A B) (k : RSub B C) : RSub A C := fun b o e => k b o (h b o e)
def rcell (R : RHeap) (a : Addr) : Option Value :=
  match R a.block with
  | some (.cells c _ _) => if a.spot.isSome then none else c[a.off]?
  | _ => none
theorem rcell_mono {R R' : RHeap} (h : RSub R R') {a : Addr} {v : Value} (hv : rcell R a = some v) : rcell R' a = some v := by
  unfold rcell at *
  cases hr : R a.block with
  | none => rw [hr] at hv; cases hv
  | some o => rw [hr] at hv; rw [h _ _ hr]; exact hv
theorem rcell_cell {R : RHeap} {w : World} (h : RLe R w) {a : Addr} {v : Value} (hv : rcell R a = some v) : w.cell? a = some v := by
  unfold rcell at hv
  unfold World.cell?
  cases hr : R a.block with
  | none => rw [hr] at hv; cases hv
  | some o => rw [hr] at hv; rw [h _ _ hr]; exact hv

structure AV where
  den : RHeap → Value → Prop
  mono : ∀ {R R' : RHeap} {v : Value}, RSub R R' → den R v → den R' v

def AV.any : AV := ⟨fun _ _ => True, fun _ h => h⟩
def AV.is (v0 : Value) : AV := ⟨fun _ v => v = v0, fun _ h => h⟩
def AV.ik (k : IntKind) (n : Int) : AV := AV.is (.int k n)
def AV.int (n : Int) : AV := AV.is (.int .i64 n)
def AV.bool (b : Bool) : AV := AV.is (.bool b)
def AV.str (s : List UInt8) : AV := AV.is (.string ⟨s.toArray⟩)
def AV.fn (f : FuncId) : AV := AV.is (.func (.func f) #[] #[])
def AV.ptr (b off : Nat) : AV := AV.is (.pointer (some ⟨b, off, none⟩))

/-- Cells: each value is one cell's and denotes its abstract value. -/
def DenC (R : RHeap) (vs : List Value) (xs : List AV) : Prop :=
  vs.length = xs.length ∧ ∀ (i : Nat) (v : Value) (x : AV), vs[i]? = some v → xs[i]? = some x → x.den R v ∧ v.oneCell' = true
theorem DenC.mono {R R' : RHeap} {vs : List Value} {xs : List AV} (h : RSub R R') (hd : DenC R vs xs) : DenC R' vs xs :=
  ⟨hd.1, fun i v x hv hx => ⟨x.mono h (hd.2 i v x hv hx).1, (hd.2 i v x hv hx).2⟩⟩
/-- Values: each denotes its abstract value. -/
def DenV (R : RHeap) (vs : List Value) (xs : List AV) : Prop :=
  vs.length = xs.length ∧ ∀ (i : Nat) (v : Value) (x : AV), vs[i]? = some v → xs[i]? = some x → x.den R v
theorem DenV.mono {R R' : RHeap} {vs : List Value} {xs : List AV} (h : RSub R R') (hd : DenV R vs xs) : DenV R' vs xs :=
  ⟨hd.1, fun i v x hv hx => x.mono h (hd.2 i v x hv hx)⟩
theorem DenV.nil (R : RHeap) : DenV R [] [] := ⟨rfl, fun i v x h => by simp at h⟩
theorem DenV.cons {R : RHeap} {v : Value} {x : AV} {vs : List Value} {xs : List AV} (h : x.den R v) (t : DenV R vs xs) : DenV R (v :: vs) (x :: xs) := by
  refine ⟨by simp [t.1], fun i u y hu hy => ?_⟩
  cases i with
  | zero => simp at hu hy; subst hu; subst hy; exact h
  | succ i => exact t.2 i u y (by simpa using hu) (by simpa using hy)

def AV.agg (xs : List AV) : AV :=
  ⟨fun R v => ∃ vs : List Value, v = .agg vs.toArray ∧ DenC R vs xs, fun h ⟨vs, e, d⟩ => ⟨vs, e, d.mono h⟩⟩
def AV.tup (xs : List AV) : AV :=
  ⟨fun R v => ∃ vs : List Value, v = .tuple vs.toArray ∧ DenV R vs xs, fun h ⟨vs, e, d⟩ => ⟨vs, e, d.mono h⟩⟩
/-- An address from which on the cells denote these. -/
def CellsAt (R : RHeap) (a : Addr) (xs : List AV) : Prop :=
  ∀ (j : Nat) (x : AV), xs[j]? = some x → ∃ u, rcell R (a.add j) = some u ∧ x.den R u ∧ u.oneCell' = true
theorem CellsAt.mono {R R' : RHeap} {a : Addr} {xs : List AV} (h : RSub R R') (hd : CellsAt R a xs) : CellsAt R' a xs :=
  fun j x hx => let ⟨u, h1, h2, h3⟩ := hd j x hx; ⟨u, rcell_mono h h1, x.mono h h2, h3⟩
/-- A slice that is only read: its elements, each of 'sz' cells. -/
def AV.list (sz : Nat) (es : List (List AV)) : AV :=
  ⟨fun R v => ∃ oa c, v = .slice oa es.length c ∧ es.length ≤ c ∧ c ≤ maxLen ∧ (∀ e ∈ es, e.length = sz) ∧
      (es ≠ [] → ∃ a, oa = some a ∧ CellsAt R a es.flatten),
   fun h ⟨oa, c, h1, h2, h3, h4, h5⟩ => ⟨oa, c, h1, h2, h3, h4, fun hn => let ⟨a, e, k⟩ := h5 hn; ⟨a, e, k.mono h⟩⟩⟩
def AV.eptr (xs : List AV) : AV :=
  ⟨fun R v => ∃ a, v = .pointer (some a) ∧ CellsAt R a xs, fun h ⟨a, e, k⟩ => ⟨a, e, k.mono h⟩⟩
/-- What a guarded operation leaves: its value if the guard holds; else nothing. -/
def AV.whn (b : Bool) (x : AV) : AV :=
  ⟨fun R v => (b = true → x.den R v) ∧ (b = false → v = undef), fun h ⟨k, l⟩ => ⟨fun e => x.mono h (k e), l⟩⟩

/-! ### What the call owns -/
inductive Own where
  | box (b : Nat) (t : TypeId) (cs : List AV)
  | arr (v : Value) (t : TypeId) (sz : Nat) (es : List (List AV))
def Own.blk : Own → Option Nat
  | .box b _ _ => some b
  | .arr v _ _ _ => v.ownBlock
def Own.ok (R : RHeap) (w : World) : Own → Prop
  | .box b t cs => R b = none ∧ ∃ vs : List Value, w.heap[b]? = some (.cells vs.toArray t (0, 0)) ∧ DenC R vs cs
  | .arr v t sz es => (∀ b, v.ownBlock = some b → R b = none) ∧ (∀ e ∈ es, e.length = sz) ∧ ∃ xs : List Value, w.ownsRow 0 t sz v es.length xs ∧ DenC R xs es.flatten

structure Core (G : Nat → Prop) (w0 : World) (R0 : RHeap) (own : List Own) (R : RHeap) (w : World) : Prop where
  os : w.os = w0.os
  tape : w.tape = w0.tape
  output : w.output = w0.output
  size : w0.heap.size ≤ w.heap.size
  block : ∀ k, k < w0.heap.size → ¬ G k → w.heap[k]? = w0.heap[k]?
  rle : RLe R w
  rold : ∀ b, b < w0.heap.size → R b = R0 b
  owned : ∀ o ∈ own, Own.ok R w o
  fresh : ∀ o ∈ own, ∀ b, Own.blk o = some b → w0.heap.size ≤ b ∨ G b
  sep : (own.filterMap Own.blk).Nodup

structure AState where
  own : List Own
  env : List (Nat × AV)
def getv : Nat → List (Nat × AV) → Option AV
  | _, [] => none
  | t, (d, x) :: l => bif Nat.beq d t then some x else getv t l
abbrev EnvF := Nat → Option AV
def EnvOk (E : EnvF) (R : RHeap) (a : Act) : Prop := ∀ t x, E t = some x → x.den R (a.tmps.getD t undef)
theorem EnvOk.mono {E : EnvF} {R R' : RHeap} {a : Act} (h : RSub R R') (k : EnvOk E R a) : EnvOk E R' a := fun t x e => x.mono h (k t x e)
def St (G : Nat → Prop) (n : Nat) (w0 : World) (R0 : RHeap) (s : AState) (R : RHeap) (a : Act) (w : World) : Prop :=
  Core G w0 R0 s.own R w ∧ EnvOk (getv · s.env) R a ∧ a.tmps.size = n ∧ a.defers = []

/-- The code, from any concrete state that the abstract one describes. -/
def AWP (P : Program) (G : Nat → Prop) (n : Nat) (c : Code) (Q : Exit → AState → Prop) (s : AState) : Prop :=
  ∀ w0 R0 R a w, St G n w0 R0 s R a w → c.wp P (fun e a' w' => ∃ s' R', Q e s' ∧ RSub R R' ∧ St G n w0 R0 s' R' a' w') a w

/-- One state says no more than another. -/
def Le (G : Nat → Prop) (n : Nat) (s s' : AState) : Prop :=
  ∀ w0 R0 R a w, St G n w0 R0 s R a w → ∃ R', RSub R R' ∧ St G n w0 R0 s' R' a w
theorem Le.refl (G : Nat → Prop) (n : Nat) (s : AState) : Le G n s s := fun _ _ R _ _ h => ⟨R, RSub.refl _, h⟩
theorem Le.trans {G : Nat → Prop} {n : Nat} {s t u : AState} (h : Le G n s t) (k : Le G n t u) : Le G n s u := fun w0 R0 R a w hs =>
  let ⟨R1, h1, h2⟩ := h w0 R0 R a w hs
  let ⟨R2, h3, h4⟩ := k w0 R0 R1 a w h2
  ⟨R2, h1.trans h3, h4⟩
def AllIn (env : List (Nat × AV)) : List (Nat × AV) → Prop
  | [] => True
  | (t, x) :: l => getv t env = some x ∧ AllIn env l
theorem AllIn.get {env : List (Nat × AV)} : ∀ {l : List (Nat × AV)}, AllIn env l → ∀ t x, getv t l = some x → getv t env = some x
  | [], _, _, _, h => by simp [getv] at h
  | (d, y) :: l, ⟨h1, h2⟩, t, x, h => by
    unfold getv at h
    cases hb : Nat.beq d t with
    | true =>
      rw [hb] at h
      have : d = t := Nat.eq_of_beq_eq_true hb
      simp at h
      rw [← this, ← h]; exact h1
    | false => rw [hb] at h; exact AllIn.get h2 t x (by simpa using h)
theorem le_env {G : Nat → Prop} {n : Nat} {own : List Own} {env env' : List (Nat × AV)} (h : AllIn env env') : Le G n ⟨own, env⟩ ⟨own, env'⟩ :=
  fun _ _ R _ _ ⟨h1, h2, h3⟩ => ⟨R, RSub.refl _, h1, fun t x e => h2 t x (h.get t x e), h3⟩

section control
variable {P : Program} {G : Nat → Prop} {n : Nat} {Q : Exit → AState → Prop} {s : AState}
def seqQ (K : AState → Prop) (Q : Exit → AState → Prop) : Exit → AState → Prop
  | .normal, s => K s
  | e, s => Q e s
def blockQ (id : Nat) (Q : Exit → AState → Prop) : Exit → AState → Prop
  | .exit i, s => bif Nat.beq i id then Q .normal s else Q (.exit i) s
  | e, s => Q e s
theorem AWP.mono {c : Code} {Q' : Exit → AState → Prop} (h : AWP P G n c Q s) (hq : ∀ e s, Q e s → Q' e s) : AWP P G n c Q' s :=
  fun w0 R0 R a w hs => wp_mono (h w0 R0 R a w hs) fun _ _ _ ⟨s', R', q, r⟩ => ⟨s', R', hq _ _ q, r⟩
theorem AWP.le {c : Code} {s' : AState} (h : Le G n s s') (k : AWP P G n c Q s') : AWP P G n c Q s := fun w0 R0 R a w hs =>
  let ⟨R1, h1, h2⟩ := h w0 R0 R a w hs
  wp_mono (k w0 R0 R1 a w h2) fun _ _ _ ⟨s', R', q, r1, r2⟩ => ⟨s', R', q, h1.trans r1, r2⟩
theorem awp_skip (h : Q .normal s) : AWP P G n .skip Q s := fun _ _ R _ _ hs => wp_skip ⟨s, R, h, RSub.refl _, hs⟩
theorem awp_label {l : Nat} (h : Q .normal s) : AWP P G n (.label l) Q s := fun _ _ R _ _ hs => wp_label ⟨s, R, h, RSub.refl _, hs⟩
theorem awp_exit {id : Nat} (h : Q (.exit id) s) : AWP P G n (.exit id) Q s := fun _ _ R _ _ hs => wp_exit ⟨s, R, h, RSub.refl _, hs⟩
theorem awp_ret (h : Q .ret s) : AWP P G n .ret Q s := fun _ _ R _ _ hs => wp_ret ⟨s, R, h, RSub.refl _, hs⟩
theorem awp_seq {x y : Code} (h : AWP P G n x (seqQ (AWP P G n y Q) Q) s) : AWP P G n (.seq x y) Q s := fun w0 R0 R a w hs => by
  refine wp_seq (wp_mono (h w0 R0 R a w hs) fun e a' w' ⟨s', R', q, r1, r2⟩ => ?_)
  cases e with
  | normal => exact wp_mono (q w0 R0 R' a' w' r2) fun _ _ _ ⟨s'', R'', q', r1', r2'⟩ => ⟨s'', R'', q', r1.trans r1', r2'⟩
  | _ => exact ⟨s', R', q, r1, r2⟩
theorem awp_block {id : Nat} {c : Code} (h : AWP P G n c (blockQ id Q) s) : AWP P G n (.block id c) Q s := fun w0 R0 R a w hs => by
  refine wp_block (wp_mono (h w0 R0 R a w hs) fun e a' w' ⟨s', R', q, r1, r2⟩ => ?_)
  cases e with
  | exit i =>
    simp only [Exit.inBlock]
    by_cases hi : i = id
    · rw [if_pos hi]
      have : Nat.beq i id = true := by rw [hi]; exact Nat.beq_refl _
      simp only [blockQ, this, cond_true] at q
      exact ⟨s', R', q, r1, r2⟩
    · rw [if_neg hi]
      have : Nat.beq i id = false := by
        cases hb : Nat.beq i id with
        | false => rfl
        | true => exact absurd (Nat.eq_of_beq_eq_true hb) hi
      simp only [blockQ, this, cond_false] at q
      exact ⟨s', R', q, r1, r2⟩
  | _ => exact ⟨s', R', q, r1, r2⟩
theorem blockN {id : Nat} (h : Q .normal s) : blockQ id Q .normal s := h
/-- What an operand denotes. -/
def Ev (E : EnvF) (o : Operand) (x : AV) : Prop :=
  ∀ (R : RHeap) (a : Act), (∀ t, o = .tmp t → ∀ y, E t = some y → y.den R (a.tmps.getD t undef)) → x.den R (a.eval o)
theorem ev_tmp {E : EnvF} {t : Nat} {x : AV} (h : E t = some x) : Ev E (.tmp t) x := fun _ _ k => k t rfl x h
theorem ev_const {E : EnvF} {v : Value} : Ev E (.const v) (AV.is v) := fun _ _ _ => rfl
theorem ev_func {E : EnvF} {f : FuncId} : Ev E (.func f) (AV.fn f) := fun _ _ _ => rfl
theorem ev_whn {E : EnvF} {t : Nat} {c : Bool} {x : AV} (h : E t = some (AV.whn c x)) (hc : c = true) : Ev E (.tmp t) x := fun _ _ k => (k t rfl _ h).1 hc
theorem awp_cond {c : Operand} {x y : Code} {b : Bool} (hc : Ev (getv · s.env) c (AV.bool b)) (ht : b = true → AWP P G n x Q s) (hf : b = false → AWP P G n y Q s) :
    AWP P G n (.cond c x y) Q s := fun w0 R0 R a w hs =>
  wp_cond_split (t := b) (hc R a (fun t _ y hy => hs.2.1 t y hy)) (fun e => ht e w0 R0 R a w hs) (fun e => hf e w0 R0 R a w hs)
theorem wp_loop_rel {α : Type} {P : Program} {c : Code} {Q : Exit → Act → World → Prop} {a : Act} {w : World} (I : α → Act → World → Prop) (μ : α → Nat) (x0 : α) (h₀ : I x0 a w)
    (round : ∀ x a w, I x a w → c.wp P (Exit.then (fun a' w' => ∃ x', I x' a' w' ∧ μ x' < μ x) Q) a w) : (Code.loop c).wp P Q a w := by
  intro b k cs
  have key : ∀ n x a w, μ x = n → I x a w →
      ∃ e a' w', Q e a' w' ∧ Arrives P (lone (b.at a (.code c :: .inLoop c :: k)) cs w) b k cs e a' w' := by
    intro n
    induction n using Nat.strongRecOn with
    | _ n ih =>
      intro x a w hn hI
      obtain ⟨e, a₁, w₁, hq, harr⟩ := round x a w hI b (.inLoop c :: k) cs
      cases e with
      | normal =>
        obtain ⟨x', hI₁, hlt⟩ := hq
        obtain ⟨e₂, a₂, w₂, hq₂, harr₂⟩ := ih (μ x') (hn ▸ hlt) x' a₁ w₁ rfl hI₁
        exact ⟨e₂, a₂, w₂, hq₂, .of_steps (Steps.trans harr (.one step_inLoop)) harr₂⟩
      | exit id => exact ⟨_, a₁, w₁, hq, .pass (x := .inLoop c) rfl (fun _ _ => .inl (by simp)) harr⟩
      | goto l => exact ⟨_, a₁, w₁, hq, .pass (x := .inLoop c) rfl (fun _ _ => .inl (by simp)) harr⟩
      | ret => exact ⟨_, a₁, w₁, hq, .pass (x := .inLoop c) rfl (fun _ _ => .inl (by simp)) harr⟩
      | panic ch => exact ⟨_, a₁, w₁, hq, .pass (x := .inLoop c) rfl (fun _ _ => .inl (by simp)) harr⟩
      | outgrown => exact ⟨_, a₁, w₁, hq, .pass (x := .inLoop c) rfl (fun _ _ => .inl (by simp)) harr⟩
  obtain ⟨e, a', w', hq, harr⟩ := key _ x0 a w rfl h₀
  exact ⟨e, a', w', hq, .of_steps (.one step_loop) harr⟩
theorem awp_loop {α : Type} {c : Code} (I : α → AState) (μ : α → Nat) (x0 : α) (h0 : Le G n s (I x0))
    (round : ∀ x, AWP P G n c (seqQ (fun s' => ∃ x', μ x' < μ x ∧ Le G n s' (I x')) Q) (I x)) : AWP P G n (.loop c) Q s := fun w0 R0 R a w hs => by
  obtain ⟨R1, hr1, hs1⟩ := h0 w0 R0 R a w hs
  refine wp_loop_rel (fun x a' w' => ∃ R', RSub R R' ∧ St G n w0 R0 (I x) R' a' w') μ x0 ⟨R1, hr1, hs1⟩ fun x a w ⟨R2, hr2, hs2⟩ => ?_
  refine wp_mono (round x w0 R0 R2 a w hs2) fun e a' w' ⟨s', R', q, r1, r2⟩ => ?_
  cases e with
  | normal =>
    obtain ⟨x', hlt, hle⟩ := q
    obtain ⟨R3, hr3, hs3⟩ := hle w0 R0 R' a' w' r2
    exact ⟨x', ⟨R3, (hr2.trans r1).trans hr3, hs3⟩, hlt⟩
  | _ => exact ⟨s', R', q, hr2.trans r1, r2⟩
/-- A loop: what holds at each round's head (Inv), the environment there (what turns: V; what stays: base), what is owned (what turns: O; what stays: own0). -/
theorem awp_loop_i {α : Type} {c : Code} {own : List Own} {env : List (Nat × AV)} (base : List (Nat × AV)) (own0 : List Own) (Inv : α → Prop) (O : α → List Own) (V : α → List (Nat × AV)) (μ : α → Nat) (x0 : α) (hi : Inv x0)
    (h0 : Le G n ⟨own, env⟩ ⟨O x0 ++ own0, V x0 ++ base⟩)
    (round : ∀ x, Inv x → AWP P G n c (seqQ (fun s' => ∃ x', Inv x' ∧ μ x' < μ x ∧ Le G n s' ⟨O x' ++ own0, V x' ++ base⟩) Q) ⟨O x ++ own0, V x ++ base⟩) : AWP P G n (.loop c) Q ⟨own, env⟩ :=
  awp_loop (α := { x : α // Inv x }) (fun x => ⟨O x.1 ++ own0, V x.1 ++ base⟩) (fun x => μ x.1) ⟨x0, hi⟩ h0 fun x => (round x.1 x.2).mono fun e s q => by
    cases e with
    | normal => obtain ⟨x', h1, h2, h3⟩ := q; exact ⟨⟨x', h1⟩, h2, h3⟩
    | _ => exact q
theorem round_end {α : Type} {own own0 : List Own} {env base : List (Nat × AV)} {Inv : α → Prop} {O : α → List Own} {V : α → List (Nat × AV)} {μ : α → Nat} (x : α) (x' : α) (h1 : Inv x') (h2 : μ x' < μ x) (h3 : Le G n ⟨own, env⟩ ⟨O x' ++ own0, V x' ++ base⟩) :
    seqQ (fun s' => ∃ x', Inv x' ∧ μ x' < μ x ∧ Le G n s' ⟨O x' ++ own0, V x' ++ base⟩) Q .normal ⟨own, env⟩ := ⟨x', h1, h2, h3⟩
theorem awp_loop_i2 {α β : Type} {c : Code} {own : List Own} {env : List (Nat × AV)} (base : List (Nat × AV)) (own0 : List Own) (Inv : α → β → Prop) (O : α → β → List Own) (V : α → β → List (Nat × AV)) (μ : α → β → Nat) (z0 : α) (z1 : β) (hi : Inv z0 z1)
    (h0 : Le G n ⟨own, env⟩ ⟨O z0 z1 ++ own0, V z0 z1 ++ base⟩)
    (round : ∀ x0 x1, Inv x0 x1 → AWP P G n c (seqQ (fun s' => ∃ y0 y1, Inv y0 y1 ∧ μ y0 y1 < μ x0 x1 ∧ Le G n s' ⟨O y0 y1 ++ own0, V y0 y1 ++ base⟩) Q) ⟨O x0 x1 ++ own0, V x0 x1 ++ base⟩) : AWP P G n (.loop c) Q ⟨own, env⟩ :=
  awp_loop_i (α := α × β) base own0 (fun x => Inv x.1 x.2) (fun x => O x.1 x.2) (fun x => V x.1 x.2) (fun x => μ x.1 x.2) (z0, z1) hi h0 fun x h => (round x.1 x.2 h).mono fun e s q => by
    cases e with
    | normal => obtain ⟨y0, y1, h1, h2, h3⟩ := q; exact ⟨(y0, y1), h1, h2, h3⟩
    | _ => exact q
theorem round_end2 {α β : Type} {own own0 : List Own} {env base : List (Nat × AV)} {Inv : α → β → Prop} {O : α → β → List Own} {V : α → β → List (Nat × AV)} {μ : α → β → Nat} (x0 : α) (x1 : β) (y0 : α) (y1 : β) (h1 : Inv y0 y1) (h2 : μ y0 y1 < μ x0 x1) (h3 : Le G n ⟨own, env⟩ ⟨O y0 y1 ++ own0, V y0 y1 ++ base⟩) :
    seqQ (fun s' => ∃ y0 y1, Inv y0 y1 ∧ μ y0 y1 < μ x0 x1 ∧ Le G n s' ⟨O y0 y1 ++ own0, V y0 y1 ++ base⟩) Q .normal ⟨own, env⟩ := ⟨y0, y1, h1, h2, h3⟩
theorem awp_loop_i3 {α β γ : Type} {c : Code} {own : List Own} {env : List (Nat × AV)} (base : List (Nat × AV)) (own0 : List Own) (Inv : α → β → γ → Prop) (O : α → β → γ → List Own) (V : α → β → γ → List (Nat × AV)) (μ : α → β → γ → Nat) (z0 : α) (z1 : β) (z2 : γ) (hi : Inv z0 z1 z2)
    (h0 : Le G n ⟨own, env⟩ ⟨O z0 z1 z2 ++ own0, V z0 z1 z2 ++ base⟩)
    (round : ∀ x0 x1 x2, Inv x0 x1 x2 → AWP P G n c (seqQ (fun s' => ∃ y0 y1 y2, Inv y0 y1 y2 ∧ μ y0 y1 y2 < μ x0 x1 x2 ∧ Le G n s' ⟨O y0 y1 y2 ++ own0, V y0 y1 y2 ++ base⟩) Q) ⟨O x0 x1 x2 ++ own0, V x0 x1 x2 ++ base⟩) : AWP P G n (.loop c) Q ⟨own, env⟩ :=
  awp_loop_i (α := α × β × γ) base own0 (fun x => Inv x.1 x.2.1 x.2.2) (fun x => O x.1 x.2.1 x.2.2) (fun x => V x.1 x.2.1 x.2.2) (fun x => μ x.1 x.2.1 x.2.2) (z0, z1, z2) hi h0 fun x h => (round x.1 x.2.1 x.2.2 h).mono fun e s q => by
    cases e with
    | normal => obtain ⟨y0, y1, y2, h1, h2, h3⟩ := q; exact ⟨(y0, y1, y2), h1, h2, h3⟩
    | _ => exact q
theorem round_end3 {α β γ : Type} {own own0 : List Own} {env base : List (Nat × AV)} {Inv : α → β → γ → Prop} {O : α → β → γ → List Own} {V : α → β → γ → List (Nat × AV)} {μ : α → β → γ → Nat} (x0 : α) (x1 : β) (x2 : γ) (y0 : α) (y1 : β) (y2 : γ) (h1 : Inv y0 y1 y2) (h2 : μ y0 y1 y2 < μ x0 x1 x2) (h3 : Le G n ⟨own, env⟩ ⟨O y0 y1 y2 ++ own0, V y0 y1 y2 ++ base⟩) :
    seqQ (fun s' => ∃ y0 y1 y2, Inv y0 y1 y2 ∧ μ y0 y1 y2 < μ x0 x1 x2 ∧ Le G n s' ⟨O y0 y1 y2 ++ own0, V y0 y1 y2 ++ base⟩) Q .normal ⟨own, env⟩ := ⟨y0, y1, y2, h1, h2, h3⟩
theorem awp_loop_i4 {α β γ δ : Type} {c : Code} {own : List Own} {env : List (Nat × AV)} (base : List (Nat × AV)) (own0 : List Own) (Inv : α → β → γ → δ → Prop) (O : α → β → γ → δ → List Own) (V : α → β → γ → δ → List (Nat × AV)) (μ : α → β → γ → δ → Nat) (z0 : α) (z1 : β) (z2 : γ) (z3 : δ) (hi : Inv z0 z1 z2 z3)
    (h0 : Le G n ⟨own, env⟩ ⟨O z0 z1 z2 z3 ++ own0, V z0 z1 z2 z3 ++ base⟩)
    (round : ∀ x0 x1 x2 x3, Inv x0 x1 x2 x3 → AWP P G n c (seqQ (fun s' => ∃ y0 y1 y2 y3, Inv y0 y1 y2 y3 ∧ μ y0 y1 y2 y3 < μ x0 x1 x2 x3 ∧ Le G n s' ⟨O y0 y1 y2 y3 ++ own0, V y0 y1 y2 y3 ++ base⟩) Q) ⟨O x0 x1 x2 x3 ++ own0, V x0 x1 x2 x3 ++ base⟩) : AWP P G n (.loop c) Q ⟨own, env⟩ :=
  awp_loop_i (α := α × β × γ × δ) base own0 (fun x => Inv x.1 x.2.1 x.2.2.1 x.2.2.2) (fun x => O x.1 x.2.1 x.2.2.1 x.2.2.2) (fun x => V x.1 x.2.1 x.2.2.1 x.2.2.2) (fun x => μ x.1 x.2.1 x.2.2.1 x.2.2.2) (z0, z1, z2, z3) hi h0 fun x h => (round x.1 x.2.1 x.2.2.1 x.2.2.2 h).mono fun e s q => by
    cases e with
    | normal => obtain ⟨y0, y1, y2, y3, h1, h2, h3⟩ := q; exact ⟨(y0, y1, y2, y3), h1, h2, h3⟩
    | _ => exact q
theorem round_end4 {α β γ δ : Type} {own own0 : List Own} {env base : List (Nat × AV)} {Inv : α → β → γ → δ → Prop} {O : α → β → γ → δ → List Own} {V : α → β → γ → δ → List (Nat × AV)} {μ : α → β → γ → δ → Nat} (x0 : α) (x1 : β) (x2 : γ) (x3 : δ) (y0 : α) (y1 : β) (y2 : γ) (y3 : δ) (h1 : Inv y0 y1 y2 y3) (h2 : μ y0 y1 y2 y3 < μ x0 x1 x2 x3) (h3 : Le G n ⟨own, env⟩ ⟨O y0 y1 y2 y3 ++ own0, V y0 y1 y2 y3 ++ base⟩) :
    seqQ (fun s' => ∃ y0 y1 y2 y3, Inv y0 y1 y2 y3 ∧ μ y0 y1 y2 y3 < μ x0 x1 x2 x3 ∧ Le G n s' ⟨O y0 y1 y2 y3 ++ own0, V y0 y1 y2 y3 ++ base⟩) Q .normal ⟨own, env⟩ := ⟨y0, y1, y2, y3, h1, h2, h3⟩
theorem awp_loop_i5 {α β γ δ ε : Type} {c : Code} {own : List Own} {env : List (Nat × AV)} (base : List (Nat × AV)) (own0 : List Own) (Inv : α → β → γ → δ → ε → Prop) (O : α → β → γ → δ → ε → List Own) (V : α → β → γ → δ → ε → List (Nat × AV)) (μ : α → β → γ → δ → ε → Nat) (z0 : α) (z1 : β) (z2 : γ) (z3 : δ) (z4 : ε) (hi : Inv z0 z1 z2 z3 z4)
    (h0 : Le G n ⟨own, env⟩ ⟨O z0 z1 z2 z3 z4 ++ own0, V z0 z1 z2 z3 z4 ++ base⟩)
    (round : ∀ x0 x1 x2 x3 x4, Inv x0 x1 x2 x3 x4 → AWP P G n c (seqQ (fun s' => ∃ y0 y1 y2 y3 y4, Inv y0 y1 y2 y3 y4 ∧ μ y0 y1 y2 y3 y4 < μ x0 x1 x2 x3 x4 ∧ Le G n s' ⟨O y0 y1 y2 y3 y4 ++ own0, V y0 y1 y2 y3 y4 ++ base⟩) Q) ⟨O x0 x1 x2 x3 x4 ++ own0, V x0 x1 x2 x3 x4 ++ base⟩) : AWP P G n (.loop c) Q ⟨own, env⟩ :=
  awp_loop_i (α := α × β × γ × δ × ε) base own0 (fun x => Inv x.1 x.2.1 x.2.2.1 x.2.2.2.1 x.2.2.2.2) (fun x => O x.1 x.2.1 x.2.2.1 x.2.2.2.1 x.2.2.2.2) (fun x => V x.1 x.2.1 x.2.2.1 x.2.2.2.1 x.2.2.2.2) (fun x => μ x.1 x.2.1 x.2.2.1 x.2.2.2.1 x.2.2.2.2) (z0, z1, z2, z3, z4) hi h0 fun x h => (round x.1 x.2.1 x.2.2.1 x.2.2.2.1 x.2.2.2.2 h).mono fun e s q => by
    cases e with
    | normal => obtain ⟨y0, y1, y2, y3, y4, h1, h2, h3⟩ := q; exact ⟨(y0, y1, y2, y3, y4), h1, h2, h3⟩
    | _ => exact q
theorem round_end5 {α β γ δ ε : Type} {own own0 : List Own} {env base : List (Nat × AV)} {Inv : α → β → γ → δ → ε → Prop} {O : α → β → γ → δ → ε → List Own} {V : α → β → γ → δ → ε → List (Nat × AV)} {μ : α → β → γ → δ → ε → Nat} (x0 : α) (x1 : β) (x2 : γ) (x3 : δ) (x4 : ε) (y0 : α) (y1 : β) (y2 : γ) (y3 : δ) (y4 : ε) (h1 : Inv y0 y1 y2 y3 y4) (h2 : μ y0 y1 y2 y3 y4 < μ x0 x1 x2 x3 x4) (h3 : Le G n ⟨own, env⟩ ⟨O y0 y1 y2 y3 y4 ++ own0, V y0 y1 y2 y3 y4 ++ base⟩) :
    seqQ (fun s' => ∃ y0 y1 y2 y3 y4, Inv y0 y1 y2 y3 y4 ∧ μ y0 y1 y2 y3 y4 < μ x0 x1 x2 x3 x4 ∧ Le G n s' ⟨O y0 y1 y2 y3 y4 ++ own0, V y0 y1 y2 y3 y4 ++ base⟩) Q .normal ⟨own, env⟩ := ⟨y0, y1, y2, y3, y4, h1, h2, h3⟩
theorem awp_len {c : Code} {t sz : Nat} {es : List (List AV)} {own : List Own} {env : List (Nat × AV)} (h : getv t env = some (AV.list sz es)) (k : es.length ≤ 9223372036854775807 → AWP P G n c Q ⟨own, env⟩) : AWP P G n c Q ⟨own, env⟩ := fun w0 R0 R a w hs => by
  obtain ⟨oa, cap, _, h1, h2, _⟩ := hs.2.1 t _ h
  exact k (by unfold maxLen at h2; omega) w0 R0 R a w hs
theorem core_sub {w0 : World} {R0 R : RHeap} {w : World} {own own' : List Own} (h : Core G w0 R0 own R w) (hs : own'.Sublist own) : Core G w0 R0 own' R w :=
  ⟨h.os, h.tape, h.output, h.size, h.block, h.rle, h.rold, fun o ho => h.owned o (hs.subset ho), fun o ho => h.fresh o (hs.subset ho), (hs.filterMap _).nodup h.sep⟩
theorem le_drop {own : List Own} {env env' : List (Nat × AV)} (k : Nat) (h : AllIn env env') : Le G n ⟨own, env⟩ ⟨own.drop k, env'⟩ :=
  fun _ _ R _ _ ⟨h1, h2, h3⟩ => ⟨R, RSub.refl _, core_sub h1 (List.drop_sublist k own), fun t x e => h2 t x (h.get t x e), h3⟩
end control
end Go.AV
