/- Rules for the operations that only read. -/
import Derived.Test.YteliahajeokciaaAvRegion
import Derived.WalkLawsBesides
set_option linter.unusedVariables false
set_option linter.unusedSimpArgs false
namespace Go.AV
open Go.RowKit (Below)

@[reducible] def AV.byte (c : UInt8) : AV := AV.ik .u8 c.toNat
def AV.nils : AV := AV.is (.slice none 0 0)

theorem ne_of_bne {a b : Int} (h : (a != b) = true) : a ≠ b := by simpa using h
theorem eq_of_bne_false {a b : Int} (h : (a != b) = false) : a = b := by simpa using h
theorem ne_of_beqf {a b : Int} (h : (a == b) = false) : a ≠ b := by simpa using h
theorem eq_of_beqt {a b : Int} (h : (a == b) = true) : a = b := by simpa using h
theorem and_l {a b : Bool} (h : (a && b) = true) : a = true := by cases a <;> simp_all
theorem and_r {a b : Bool} (h : (a && b) = true) : b = true := by cases a <;> simp_all
theorem drop_some {α : Type} {s : List α} {i : Nat} {c : α} (h : s[i]? = some c) : s.drop i = c :: s.drop (i + 1) := by
  obtain ⟨h1, h2⟩ := List.getElem?_eq_some_iff.1 h
  rw [List.drop_eq_getElem_cons h1, h2]
theorem get_some {α : Type} {s : List α} {i : Nat} (h : i < s.length) : ∃ c, s[i]? = some c := ⟨s[i], List.getElem?_eq_getElem h⟩
section
variable {P : Program} {G : Nat → Prop} {n : Nat} {own : List Own} {o : Oper} {E : EnvF}

theorem opW_core {x : AV} (h : ∀ w0 R0 (R : RHeap) (a : Act) (w : World), Core G w0 R0 own R w → (∀ t ∈ tmpsOf o, ∀ y, E t = some y → y.den R (a.tmps.getD t undef)) →
    ∃ v, (execOp a.eval o).run P w = .ok (.value v) w ∧ x.den R v) : OpW P G n own o E x := fun w0 R0 R a w hc _ he => by
  obtain ⟨v, hr, hx⟩ := h w0 R0 R a w hc he
  unfold Oper.wp
  rw [hr]
  exact ⟨v, R, rfl, hc, RSub.refl _, hx⟩
theorem opW_val {x : AV} (h : ∀ (R : RHeap) (a : Act) (w : World), RLe R w → (∀ t ∈ tmpsOf o, ∀ y, E t = some y → y.den R (a.tmps.getD t undef)) →
    ∃ v, (execOp a.eval o).run P w = .ok (.value v) w ∧ x.den R v) : OpW P G n own o E x :=
  opW_core fun _ _ R a w hc he => h R a w hc.rle he
theorem ev_use {p : Operand} {x : AV} {R : RHeap} {a : Act} (hev : Ev E p x) (hm : p ∈ o.op.operands.toList) (he : ∀ t ∈ tmpsOf o, ∀ y, E t = some y → y.den R (a.tmps.getD t undef)) : x.den R (a.eval p) :=
  hev R a fun t ht y hy => he t (by
    subst ht
    exact List.mem_filterMap.2 ⟨.tmp t, hm, rfl⟩) y hy

theorem ev_ci {k : IntKind} {m : Int} : Ev E (.const (.int k m)) (AV.ik k m) := fun _ _ _ => rfl
theorem ev_cb {b : Bool} : Ev E (.const (.bool b)) (AV.bool b) := fun _ _ _ => rfl
theorem ev_cs {s : ByteArray} : Ev E (.const (.string s)) (AV.str s.data.toList) := fun _ _ _ => by
  show _ = _
  simp [Act.eval]
theorem ev_cs' {s : ByteArray} {l : List UInt8} (h : s = ⟨l.toArray⟩) : Ev E (.const (.string s)) (AV.str l) := fun _ _ _ => by
  subst h; rfl
theorem ev_cnil {sz : Nat} : Ev E (.const (.slice none 0 0)) (AV.list sz []) := fun _ _ _ => ⟨none, 0, rfl, Nat.le_refl _, Nat.zero_le _, by simp, fun h => absurd rfl h⟩
theorem ev_cnils : Ev E (.const (.slice none 0 0)) AV.nils := fun _ _ _ => rfl
theorem ev_weaken {p : Operand} {x y : AV} (h : Ev E p x) (hw : ∀ R v, x.den R v → y.den R v) : Ev E p y := fun R a k => hw R _ (h R a k)
theorem nils_list {sz : Nat} (R : RHeap) (v : Value) (h : AV.nils.den R v) : (AV.list sz []).den R v :=
  ⟨none, 0, h, Nat.le_refl _, Nat.zero_le _, by simp, fun h => absurd rfl h⟩
/-- Denotes x if b holds. -/
def EvIf (E : EnvF) (p : Operand) (b : Bool) (x : AV) : Prop := b = true → Ev E p x
theorem evif {p : Operand} {b : Bool} {x : AV} (h : Ev E p x) : EvIf E p b x := fun _ => h
theorem evif_w {t : Nat} {b : Bool} {x : AV} (h : E t = some (AV.whn b x)) : EvIf E (.tmp t) b x := fun hb => ev_whn h hb
theorem evif_w2 {t : Nat} {b c : Bool} {x : AV} (h : E t = some (AV.whn (c && b) x)) (hc : c = true) : EvIf E (.tmp t) b x := fun hb => ev_whn h (by rw [hc, hb]; rfl)

theorem w_move {p : Operand} {x : AV} (ho : o.op = .move p) (hp : Ev E p x) : OpW P G n own o E x := opW_val fun R a w _ he =>
  ⟨a.eval p, by simp [execOp, ho], ev_use hp (by simp [ho, Op.operands]) he⟩
theorem w_assign {p : Operand} {x : AV} (ho : o.op = .assign p) (hp : Ev E p x) : OpW P G n own o E x := opW_val fun R a w _ he =>
  ⟨a.eval p, by simp [execOp, ho], ev_use hp (by simp [ho, Op.operands]) he⟩
theorem w_and {c p : Operand} {g h : Bool} (ho : o.op = .pick c p (.const (.bool false))) (hc : Ev E c (AV.bool g)) (hp : EvIf E p g (AV.bool h)) : OpW P G n own o E (AV.bool (g && h)) := opW_val fun R a w _ he => by
  have h1 : a.eval c = .bool g := ev_use hc (by simp [ho, Op.operands]) he
  cases g with
  | false => exact ⟨.bool false, by simp [execOp, ho, h1, asBool]; rfl, rfl⟩
  | true =>
    have h2 : a.eval p = .bool h := ev_use (hp rfl) (by simp [ho, Op.operands]) he
    exact ⟨.bool h, by simp [execOp, ho, h1, h2, asBool], rfl⟩
theorem w_or {c p : Operand} {g h : Bool} (ho : o.op = .pick c (.const (.bool true)) p) (hc : Ev E c (AV.bool g)) (hp : EvIf E p (!g) (AV.bool h)) : OpW P G n own o E (AV.bool (g || h)) := opW_val fun R a w _ he => by
  have h1 : a.eval c = .bool g := ev_use hc (by simp [ho, Op.operands]) he
  cases g with
  | true => exact ⟨.bool true, by simp [execOp, ho, h1, asBool]; rfl, rfl⟩
  | false =>
    have h2 : a.eval p = .bool h := ev_use (hp rfl) (by simp [ho, Op.operands]) he
    exact ⟨.bool h, by simp [execOp, ho, h1, h2, asBool], rfl⟩

section ints
variable {t ty : TypeId} {p q : Operand} {k : IntKind} {x y : Int}
theorem w_add (ho : o.op = .binOp .add t p q ty) (hp : Ev E p (AV.ik k x)) (hq : Ev E q (AV.ik k y)) : OpW P G n own o E (AV.ik k (k.wrap (x + y))) := opW_val fun R a w _ he => by
  have h1 : a.eval p = .int k x := ev_use hp (by simp [ho, Op.operands]) he
  have h2 : a.eval q = .int k y := ev_use hq (by simp [ho, Op.operands]) he
  exact ⟨.int k (k.wrap (x + y)), by simp only [execOp, ho, h1, h2]; simp [go_sem], rfl⟩
theorem w_sub (ho : o.op = .binOp .sub t p q ty) (hp : Ev E p (AV.ik k x)) (hq : Ev E q (AV.ik k y)) : OpW P G n own o E (AV.ik k (k.wrap (x - y))) := opW_val fun R a w _ he => by
  have h1 : a.eval p = .int k x := ev_use hp (by simp [ho, Op.operands]) he
  have h2 : a.eval q = .int k y := ev_use hq (by simp [ho, Op.operands]) he
  exact ⟨.int k (k.wrap (x - y)), by simp only [execOp, ho, h1, h2]; simp [go_sem], rfl⟩
theorem w_mul (ho : o.op = .binOp .mul t p q ty) (hp : Ev E p (AV.ik k x)) (hq : Ev E q (AV.ik k y)) : OpW P G n own o E (AV.ik k (k.wrap (x * y))) := opW_val fun R a w _ he => by
  have h1 : a.eval p = .int k x := ev_use hp (by simp [ho, Op.operands]) he
  have h2 : a.eval q = .int k y := ev_use hq (by simp [ho, Op.operands]) he
  exact ⟨.int k (k.wrap (x * y)), by simp only [execOp, ho, h1, h2]; simp [go_sem], rfl⟩
theorem w_quo (ho : o.op = .binOp .quo t p q ty) (hp : Ev E p (AV.ik k x)) (hq : Ev E q (AV.ik k y)) (hy : y ≠ 0) : OpW P G n own o E (AV.ik k (k.wrap (x.tdiv y))) := opW_val fun R a w _ he => by
  have h1 : a.eval p = .int k x := ev_use hp (by simp [ho, Op.operands]) he
  have h2 : a.eval q = .int k y := ev_use hq (by simp [ho, Op.operands]) he
  exact ⟨.int k (k.wrap (x.tdiv y)), by simp only [execOp, ho, h1, h2]; simp [go_sem, hy], rfl⟩
theorem w_rem (ho : o.op = .binOp .rem t p q ty) (hp : Ev E p (AV.ik k x)) (hq : Ev E q (AV.ik k y)) (hy : y ≠ 0) : OpW P G n own o E (AV.ik k (x.tmod y)) := opW_val fun R a w _ he => by
  have h1 : a.eval p = .int k x := ev_use hp (by simp [ho, Op.operands]) he
  have h2 : a.eval q = .int k y := ev_use hq (by simp [ho, Op.operands]) he
  exact ⟨.int k (x.tmod y), by simp only [execOp, ho, h1, h2]; simp [go_sem, hy], rfl⟩
theorem w_shr {k' : IntKind} (ho : o.op = .binOp .shr t p q ty) (hp : Ev E p (AV.ik k x)) (hq : Ev E q (AV.ik k' y)) (h0 : 0 ≤ y) (h1 : y ≤ k.bits) : OpW P G n own o E (AV.ik k (x / 2 ^ y.toNat)) := opW_val fun R a w _ he => by
  have h2 : a.eval p = .int k x := ev_use hp (by simp [ho, Op.operands]) he
  have h3 : a.eval q = .int k' y := ev_use hq (by simp [ho, Op.operands]) he
  exact ⟨.int k (x / 2 ^ y.toNat), by simp only [execOp, ho, h2, h3, eqGuard_shr, binOp_shr, shift_shr k k' x y h0 h1, Sem.run_bind, Sem.run_pure, Result.andThen_ok], rfl⟩
theorem w_eql (ho : o.op = .binOp .eql t p q ty) (hp : Ev E p (AV.ik k x)) (hq : Ev E q (AV.ik k y)) : OpW P G n own o E (AV.bool (x == y)) := opW_val fun R a w _ he => by
  have h1 : a.eval p = .int k x := ev_use hp (by simp [ho, Op.operands]) he
  have h2 : a.eval q = .int k y := ev_use hq (by simp [ho, Op.operands]) he
  exact ⟨.bool (x == y), by simp only [execOp, ho, h1, h2]; simp [go_sem], rfl⟩
theorem w_neq (ho : o.op = .binOp .neq t p q ty) (hp : Ev E p (AV.ik k x)) (hq : Ev E q (AV.ik k y)) : OpW P G n own o E (AV.bool (x != y)) := opW_val fun R a w _ he => by
  have h1 : a.eval p = .int k x := ev_use hp (by simp [ho, Op.operands]) he
  have h2 : a.eval q = .int k y := ev_use hq (by simp [ho, Op.operands]) he
  exact ⟨.bool (x != y), by simp only [execOp, ho, h1, h2]; simp [go_sem], rfl⟩
theorem w_lss (ho : o.op = .binOp .lss t p q ty) (hp : Ev E p (AV.ik k x)) (hq : Ev E q (AV.ik k y)) : OpW P G n own o E (AV.bool (decide (x < y))) := opW_val fun R a w _ he => by
  have h1 : a.eval p = .int k x := ev_use hp (by simp [ho, Op.operands]) he
  have h2 : a.eval q = .int k y := ev_use hq (by simp [ho, Op.operands]) he
  exact ⟨.bool (decide (x < y)), by simp only [execOp, ho, h1, h2]; simp [go_sem], rfl⟩
theorem w_leq (ho : o.op = .binOp .leq t p q ty) (hp : Ev E p (AV.ik k x)) (hq : Ev E q (AV.ik k y)) : OpW P G n own o E (AV.bool (decide (x ≤ y))) := opW_val fun R a w _ he => by
  have h1 : a.eval p = .int k x := ev_use hp (by simp [ho, Op.operands]) he
  have h2 : a.eval q = .int k y := ev_use hq (by simp [ho, Op.operands]) he
  exact ⟨.bool (decide (x ≤ y)), by simp only [execOp, ho, h1, h2]; simp [go_sem], rfl⟩
theorem w_gtr (ho : o.op = .binOp .gtr t p q ty) (hp : Ev E p (AV.ik k x)) (hq : Ev E q (AV.ik k y)) : OpW P G n own o E (AV.bool (decide (y < x))) := opW_val fun R a w _ he => by
  have h1 : a.eval p = .int k x := ev_use hp (by simp [ho, Op.operands]) he
  have h2 : a.eval q = .int k y := ev_use hq (by simp [ho, Op.operands]) he
  exact ⟨.bool (decide (y < x)), by simp only [execOp, ho, h1, h2]; simp [go_sem], rfl⟩
theorem w_geq (ho : o.op = .binOp .geq t p q ty) (hp : Ev E p (AV.ik k x)) (hq : Ev E q (AV.ik k y)) : OpW P G n own o E (AV.bool (decide (y ≤ x))) := opW_val fun R a w _ he => by
  have h1 : a.eval p = .int k x := ev_use hp (by simp [ho, Op.operands]) he
  have h2 : a.eval q = .int k y := ev_use hq (by simp [ho, Op.operands]) he
  exact ⟨.bool (decide (y ≤ x)), by simp only [execOp, ho, h1, h2]; simp [go_sem], rfl⟩
theorem in64 {m : Int} (h : -9223372036854775808 ≤ m ∧ m ≤ 9223372036854775807) : IntKind.i64.wrap m = m := IntWalk.i64_in m h
theorem w_addi (ho : o.op = .binOp .add t p q ty) (hp : Ev E p (AV.ik .i64 x)) (hq : Ev E q (AV.ik .i64 y)) (h : -9223372036854775808 ≤ x + y ∧ x + y ≤ 9223372036854775807) : OpW P G n own o E (AV.ik .i64 (x + y)) := by
  have := w_add (P := P) (G := G) (n := n) (own := own) ho hp hq
  rwa [in64 h] at this
theorem w_subi (ho : o.op = .binOp .sub t p q ty) (hp : Ev E p (AV.ik .i64 x)) (hq : Ev E q (AV.ik .i64 y)) (h : -9223372036854775808 ≤ x - y ∧ x - y ≤ 9223372036854775807) : OpW P G n own o E (AV.ik .i64 (x - y)) := by
  have := w_sub (P := P) (G := G) (n := n) (own := own) ho hp hq
  rwa [in64 h] at this
theorem w_muli (ho : o.op = .binOp .mul t p q ty) (hp : Ev E p (AV.ik .i64 x)) (hq : Ev E q (AV.ik .i64 y)) (h : -9223372036854775808 ≤ x * y ∧ x * y ≤ 9223372036854775807) : OpW P G n own o E (AV.ik .i64 (x * y)) := by
  have := w_mul (P := P) (G := G) (n := n) (own := own) ho hp hq
  rwa [in64 h] at this
theorem w_neg (ho : o.op = .unOp .neg t p) (hp : Ev E p (AV.ik k x)) : OpW P G n own o E (AV.ik k (k.wrap (0 - x))) := opW_val fun R a w _ he => by
  have h1 : a.eval p = .int k x := ev_use hp (by simp [ho, Op.operands]) he
  exact ⟨.int k (k.wrap (0 - x)), by simp only [execOp, ho, h1]; simp [go_sem, Op.unary], rfl⟩
theorem w_not {b : Bool} (ho : o.op = .unOp .not t p) (hp : Ev E p (AV.bool b)) : OpW P G n own o E (AV.bool (!b)) := opW_val fun R a w _ he => by
  have h1 : a.eval p = .bool b := ev_use hp (by simp [ho, Op.operands]) he
  exact ⟨.bool (!b), by simp only [execOp, ho, h1]; simp [go_sem, Op.unary], rfl⟩
theorem run_beql (w : World) (t : TypeId) (b c : Bool) (ht : P.underlying t = some .bool) : (binOp .eql t (.bool b) (.bool c)).run P w = .ok (.bool (b == c)) w := by
  have h3 : (Op.equal t (.bool b) (.bool c)).run P w = .ok (b == c) w := run_equalIn_bool' w 9999 t b c ht
  show (do pure (Value.bool (← Op.equal t (.bool b) (.bool c))) : Sem Value).run P w = _
  simp only [Sem.run_bind, h3, Result.andThen_ok, Sem.run_pure]
theorem run_bneq (w : World) (t : TypeId) (b c : Bool) (ht : P.underlying t = some .bool) : (binOp .neq t (.bool b) (.bool c)).run P w = .ok (.bool (b != c)) w := by
  have h3 : (Op.equal t (.bool b) (.bool c)).run P w = .ok (b == c) w := run_equalIn_bool' w 9999 t b c ht
  show (do pure (Value.bool (!(← Op.equal t (.bool b) (.bool c)))) : Sem Value).run P w = _
  simp only [Sem.run_bind, h3, Result.andThen_ok, Sem.run_pure]
  rfl
theorem w_beql {b c : Bool} (ho : o.op = .binOp .eql t p q ty) (ht : P.underlying t = some .bool) (hp : Ev E p (AV.bool b)) (hq : Ev E q (AV.bool c)) : OpW P G n own o E (AV.bool (b == c)) := opW_val fun R a w _ he => by
  have h1 : a.eval p = .bool b := ev_use hp (by simp [ho, Op.operands]) he
  have h2 : a.eval q = .bool c := ev_use hq (by simp [ho, Op.operands]) he
  exact ⟨.bool (b == c), by simp only [execOp, ho, h1, h2, eqGuard_at_bool, Sem.run_bind, Sem.run_pure, Result.andThen_ok, run_beql w t b c ht], rfl⟩
theorem w_bneq {b c : Bool} (ho : o.op = .binOp .neq t p q ty) (ht : P.underlying t = some .bool) (hp : Ev E p (AV.bool b)) (hq : Ev E q (AV.bool c)) : OpW P G n own o E (AV.bool (b != c)) := opW_val fun R a w _ he => by
  have h1 : a.eval p = .bool b := ev_use hp (by simp [ho, Op.operands]) he
  have h2 : a.eval q = .bool c := ev_use hq (by simp [ho, Op.operands]) he
  exact ⟨.bool (b != c), by simp only [execOp, ho, h1, h2, eqGuard_at_bool, Sem.run_bind, Sem.run_pure, Result.andThen_ok, run_bneq w t b c ht], rfl⟩
theorem w_conv {k' : IntKind} {src dst : TypeId} (ho : o.op = .convert src dst p) (hs : (P.underlying src).isSome = true) (hd : P.underlying dst = some (.int k')) (hp : Ev E p (AV.ik k x)) : OpW P G n own o E (AV.ik k' (k'.wrap x)) := opW_val fun R a w _ he => by
  have h1 : a.eval p = .int k x := ev_use hp (by simp [ho, Op.operands]) he
  have hk : P.intKind dst = k' := by simp [Program.intKind, hd]
  have := run_convert_int (P := P) w src dst k x hs (by rw [hk]; exact hd)
  rw [hk] at this
  exact ⟨.int k' (k'.wrap x), by simp [execOp, ho, h1, this], rfl⟩
end ints

section strings
variable {t ty : TypeId} {p q : Operand} {s u : List UInt8}
theorem size_mk (l : List UInt8) : (ByteArray.mk l.toArray).size = l.length := by simp [ByteArray.size]
theorem bytes_beq (a b : List UInt8) : ((ByteArray.mk a.toArray) == (ByteArray.mk b.toArray)) = (a == b) := by
  rw [beq_toListBytes, ByteArray.toList_mk, ByteArray.toList_mk]
theorem w_seql (ho : o.op = .binOp .eql t p q ty) (hp : Ev E p (AV.str s)) (hq : Ev E q (AV.str u)) : OpW P G n own o E (AV.bool (s == u)) := opW_val fun R a w _ he => by
  have h1 : a.eval p = .string ⟨s.toArray⟩ := ev_use hp (by simp [ho, Op.operands]) he
  have h2 : a.eval q = .string ⟨u.toArray⟩ := ev_use hq (by simp [ho, Op.operands]) he
  exact ⟨.bool (s == u), by simp only [execOp, ho, h1, h2, eqGuard_at_string, binOp, Op.stringOp, Sem.run_bind, Sem.run_pure, Result.andThen_ok, ByteArray.toList_mk], rfl⟩
theorem w_sneq (ho : o.op = .binOp .neq t p q ty) (hp : Ev E p (AV.str s)) (hq : Ev E q (AV.str u)) : OpW P G n own o E (AV.bool (s != u)) := opW_val fun R a w _ he => by
  have h1 : a.eval p = .string ⟨s.toArray⟩ := ev_use hp (by simp [ho, Op.operands]) he
  have h2 : a.eval q = .string ⟨u.toArray⟩ := ev_use hq (by simp [ho, Op.operands]) he
  exact ⟨.bool (s != u), by simp only [execOp, ho, h1, h2, eqGuard_at_string, binOp, Op.stringOp, Sem.run_bind, Sem.run_pure, Result.andThen_ok, ByteArray.toList_mk]; rfl, rfl⟩
theorem w_slss (ho : o.op = .binOp .lss t p q ty) (hp : Ev E p (AV.str s)) (hq : Ev E q (AV.str u)) : OpW P G n own o E (AV.bool (Op.bytesLess s u)) := opW_val fun R a w _ he => by
  have h1 : a.eval p = .string ⟨s.toArray⟩ := ev_use hp (by simp [ho, Op.operands]) he
  have h2 : a.eval q = .string ⟨u.toArray⟩ := ev_use hq (by simp [ho, Op.operands]) he
  exact ⟨.bool (Op.bytesLess s u), by simp only [execOp, ho, h1, h2, eqGuard_at_string, binOp, Op.stringOp, Sem.run_bind, Sem.run_pure, Result.andThen_ok, ByteArray.toList_mk], rfl⟩
theorem w_sgtr (ho : o.op = .binOp .gtr t p q ty) (hp : Ev E p (AV.str s)) (hq : Ev E q (AV.str u)) : OpW P G n own o E (AV.bool (!(Op.bytesLess s u || s == u))) := opW_val fun R a w _ he => by
  have h1 : a.eval p = .string ⟨s.toArray⟩ := ev_use hp (by simp [ho, Op.operands]) he
  have h2 : a.eval q = .string ⟨u.toArray⟩ := ev_use hq (by simp [ho, Op.operands]) he
  exact ⟨.bool (!(Op.bytesLess s u || s == u)), by simp only [execOp, ho, h1, h2, eqGuard_at_string, binOp_string_gtr, Sem.run_bind, Sem.run_pure, Result.andThen_ok, ByteArray.toList_mk], rfl⟩
theorem w_sleq (ho : o.op = .binOp .leq t p q ty) (hp : Ev E p (AV.str s)) (hq : Ev E q (AV.str u)) : OpW P G n own o E (AV.bool (Op.bytesLess s u || s == u)) := opW_val fun R a w _ he => by
  have h1 : a.eval p = .string ⟨s.toArray⟩ := ev_use hp (by simp [ho, Op.operands]) he
  have h2 : a.eval q = .string ⟨u.toArray⟩ := ev_use hq (by simp [ho, Op.operands]) he
  exact ⟨.bool (Op.bytesLess s u || s == u), by simp only [execOp, ho, h1, h2, eqGuard_at_string, binOp_string_leq, Sem.run_bind, Sem.run_pure, Result.andThen_ok, ByteArray.toList_mk], rfl⟩
theorem w_sgeq (ho : o.op = .binOp .geq t p q ty) (hp : Ev E p (AV.str s)) (hq : Ev E q (AV.str u)) : OpW P G n own o E (AV.bool (!Op.bytesLess s u)) := opW_val fun R a w _ he => by
  have h1 : a.eval p = .string ⟨s.toArray⟩ := ev_use hp (by simp [ho, Op.operands]) he
  have h2 : a.eval q = .string ⟨u.toArray⟩ := ev_use hq (by simp [ho, Op.operands]) he
  exact ⟨.bool (!Op.bytesLess s u), by simp only [execOp, ho, h1, h2, eqGuard_at_string, binOp_string_geq, Sem.run_bind, Sem.run_pure, Result.andThen_ok, ByteArray.toList_mk], rfl⟩
theorem w_cat (ho : o.op = .binOp .add t p q ty) (hp : Ev E p (AV.str s)) (hq : Ev E q (AV.str u)) (hl : s.length + u.length ≤ 9223372036854775807) : OpW P G n own o E (AV.str (s ++ u)) := opW_val fun R a w _ he => by
  have h1 : a.eval p = .string ⟨s.toArray⟩ := ev_use hp (by simp [ho, Op.operands]) he
  have h2 : a.eval q = .string ⟨u.toArray⟩ := ev_use hq (by simp [ho, Op.operands]) he
  have h3 := run_string_add_sum (P := P) w ⟨s.toArray⟩ ⟨u.toArray⟩ (by rw [size_mk, size_mk]; exact hl)
  rw [ByteArray.mk_append_mk] at h3
  exact ⟨.string ⟨(s ++ u).toArray⟩, by simp only [execOp, ho, h1, h2, eqGuard_at_string, binOp, Sem.run_bind, Sem.run_pure, Result.andThen_ok, h3], rfl⟩
theorem w_slen (ho : o.op = .call { callee := .builtin .len, args := #[p], argTypes := #[t] }) (ht : P.underlying t = some .string) (hp : Ev E p (AV.str s)) : OpW P G n own o E (AV.int s.length) := opW_val fun R a w _ he => by
  have h1 : a.eval p = .string ⟨s.toArray⟩ := ev_use hp (by simp [ho, Op.operands, Call.operands]) he
  have h2 := run_len_string (P := P) w t o.type ⟨s.toArray⟩ ht
  rw [size_mk] at h2
  exact ⟨.int .i64 s.length, by simp only [execOp, ho, resolve, invoke, builtin, List.map_toArray, List.map_cons, List.map_nil, h1, h2, Sem.run_bind, Sem.run_pure, Result.andThen_ok, goInt], rfl⟩
theorem w_sidx {i : Int} {c : UInt8} (ho : o.op = .index t p q) (ht : P.underlying t = some .string) (hp : Ev E p (AV.str s)) (hq : Ev E q (AV.int i)) (h0 : 0 ≤ i) (hc : s[i.toNat]? = some c) : OpW P G n own o E (AV.byte c) := opW_val fun R a w _ he => by
  have h1 : a.eval p = .string ⟨s.toArray⟩ := ev_use hp (by simp [ho, Op.operands]) he
  have h2 : a.eval q = .int .i64 i := ev_use hq (by simp [ho, Op.operands]) he
  have hlt : i.toNat < s.length := (List.getElem?_eq_some_iff.1 hc).1
  have h3 := run_index_string (P := P) w t ⟨s.toArray⟩ .i64 i ht
  rw [dif_pos ⟨h0, by rw [size_mk]; omega⟩] at h3
  have h4 : (ByteArray.mk s.toArray)[i.toNat]'(by rw [size_mk]; exact hlt) = c := by
    have := (List.getElem?_eq_some_iff.1 hc).2
    rw [← this]; rfl
  rw [h4] at h3
  exact ⟨.int .u8 c.toNat, by simp only [execOp, ho, h1, h2, h3, Sem.run_bind, Sem.run_pure, Result.andThen_ok], rfl⟩
end strings
end
end Go.AV
