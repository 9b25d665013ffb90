/- Rules: bytes read as a string. -/
import Derived.Test.YteliahajeokciaaAvR
import Derived.Laws.BytesArg
import Derived.Laws.IdiomStrings
set_option linter.unusedVariables false
set_option linter.unusedSimpArgs false
namespace Go.AV
open Go.RowKit (Below)
section
variable {P : Program} {G : Nat → Prop} {n : Nat} {own : List Own} {o : Oper} {E : EnvF}
theorem bytes_flat (l : List UInt8) : (l.map fun c => [AV.byte c]).flatten = l.map AV.byte := by
  induction l with
  | nil => rfl
  | cons c l ih => simp only [List.map_cons, List.flatten_cons, ih]; rfl
theorem w_convBS {src dst e : TypeId} {p : Operand} {l : List UInt8} (ho : o.op = .convert src dst p) (hs : P.underlying src = some (.slice e)) (he : P.underlying e = some (.int .u8)) (hd : P.underlying dst = some .string) (hp : Ev E p (AV.list 1 (l.map fun c => [AV.byte c]))) : OpW P G n own o E (AV.str l) := opW_val fun R a w hr hen => by
  obtain ⟨oa, c, h1, _, _, _, hc⟩ := ev_use hp (by simp [ho, Op.operands]) hen
  rw [List.length_map] at h1
  cases l with
  | nil =>
    refine ⟨.string ⟨#[]⟩, ?_, rfl⟩
    cases oa with
    | none => simp only [execOp, ho, h1, run_convert_bytes_nil w src e hs he _ _ dst hd, Sem.run_bind, Sem.run_pure, Result.andThen_ok]; rfl
    | some ad => simp only [execOp, ho, h1, run_convert_bytes_back w src dst e ad c [] hs he hd (fun j hj => by simp at hj), Sem.run_bind, Sem.run_pure, Result.andThen_ok]
  | cons b l =>
    obtain ⟨ad, rfl, hca⟩ := hc (by simp)
    rw [bytes_flat] at hca
    have := run_convert_bytes_back (P := P) w src dst e ad c (b :: l) hs he hd (fun j hj => by
      obtain ⟨u, hu, hx, _⟩ := hca j (AV.byte (b :: l)[j]) (by rw [List.getElem?_map, List.getElem?_eq_getElem hj]; rfl)
      cases (show u = _ from hx)
      exact rcell_cell hr hu)
    exact ⟨_, by simp only [execOp, ho, h1, this, Sem.run_bind, Sem.run_pure, Result.andThen_ok], rfl⟩
theorem w_convBA {src dst e t : TypeId} {p : Operand} {v : Value} {l : List UInt8} (i : Nat) (ho : o.op = .convert src dst p) (hs : P.underlying src = some (.slice e)) (he : P.underlying e = some (.int .u8)) (hd : P.underlying dst = some .string) (hp : Ev E p (AV.is v)) (hi : own[i]? = some (.arr v t 1 (l.map fun c => [AV.byte c]))) : OpW P G n own o E (AV.str l) := opW_core fun w0 R0 R a w hcr hen => by
  have h1 : a.eval p = v := ev_use hp (by simp [ho, Op.operands]) hen
  have hok := hcr.owned _ (List.mem_of_getElem? hi)
  obtain ⟨_, _, xs, hown, _⟩ := hok
  obtain ⟨oa, c, rfl, _⟩ := own_form hown
  rw [List.length_map] at *
  cases l with
  | nil =>
    refine ⟨.string ⟨#[]⟩, ?_, rfl⟩
    cases oa with
    | none => simp only [execOp, ho, h1, run_convert_bytes_nil w src e hs he _ _ dst hd, Sem.run_bind, Sem.run_pure, Result.andThen_ok]; rfl
    | some ad => simp only [execOp, ho, h1, run_convert_bytes_back w src dst e ad c [] hs he hd (fun j hj => by simp at hj), Sem.run_bind, Sem.run_pure, Result.andThen_ok]
  | cons b l =>
    have hcell : ∀ j (hj : j < (b :: l).length), ∃ g, elemPtr (.slice oa (b :: l).length c) j = .pointer (some ⟨g, j, none⟩) ∧ (Value.slice oa (b :: l).length c).ownBlock = some g ∧ w.cell? ⟨g, j, none⟩ = some (.int .u8 ((b :: l)[j].toNat : Int)) := fun j hj => by
      obtain ⟨g, u, q1, q2, q3, q4, _⟩ := own_cells (hcr.owned _ (List.mem_of_getElem? hi)) (j := j) (x := AV.byte (b :: l)[j]) (by rw [bytes_flat, List.getElem?_map, List.getElem?_eq_getElem hj]; rfl)
      cases (show u = _ from q4)
      exact ⟨g, q1, q2, q3⟩
    obtain ⟨g, q1, q2, _⟩ := hcell 0 (by simp)
    cases oa with
    | none => simp [elemPtr] at q1
    | some ad =>
      have had : ad = ⟨g, 0, none⟩ := by
        simp only [elemPtr, Value.pointer.injEq, Option.some.injEq] at q1
        rw [add_zero] at q1; exact q1
      subst had
      have := run_convert_bytes_back (P := P) w src dst e ⟨g, 0, none⟩ c (b :: l) hs he hd (fun j hj => by
        obtain ⟨g', _, q2', q3⟩ := hcell j hj
        rw [q2] at q2'; injection q2' with q2'; subst q2'
        rw [addr_add, Nat.zero_add]; exact q3)
      exact ⟨_, by simp only [execOp, ho, h1, this, Sem.run_bind, Sem.run_pure, Result.andThen_ok], rfl⟩
end
end Go.AV
