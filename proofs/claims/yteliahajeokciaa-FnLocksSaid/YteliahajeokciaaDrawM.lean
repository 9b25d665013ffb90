/- Plain: a reader of choices. -/
import Derived.Test.YteliahajeokciaaAvD
import Derived.Test.YteliahajeokciaaTypesM
set_option linter.unusedVariables false
set_option linter.unusedSimpArgs false
namespace Go.M
open Go.AV
/-- What a reader of choices holds: where it is, its seed. -/
structure TCur where
  p : Nat
  seed : Int
def bytesI (l : List Int) : AV := AV.list 1 (l.map fun x => [AV.ik .u8 x])
def curC (code : List Int) (c : TCur) : List AV := [bytesI code, AV.int c.p, AV.ik .u64 c.seed]
def ByteL (code : List Int) : Prop := ∀ x ∈ code, 0 ≤ x ∧ x ≤ 255
theorem byteL_of {l : List Int} (h : ∀ x ∈ l, (Lit.int .u8 x).wf = true) : ByteL l := fun x hx => by
  have := h x hx
  simp only [Lit.wf, IntKind.min, IntKind.max, IntKind.signed, IntKind.bits] at this
  simp at this
  omega
theorem wrapS {x : Int} (h : 0 ≤ x ∧ x ≤ 255) : IntKind.i64.wrap x = x := in64 (by omega)
theorem bandI_255 (x : Int) : 0 ≤ bandI x 255 ∧ bandI x 255 ≤ 255 := by
  unfold bandI
  have h1 : (BitVec.ofInt IntKind.u64.bits x &&& BitVec.ofInt IntKind.u64.bits 255).toNat ≤ 255 := by
    rw [BitVec.toNat_and]
    exact Nat.le_trans Nat.and_le_right (by decide)
  generalize (BitVec.ofInt IntKind.u64.bits x &&& BitVec.ofInt IntKind.u64.bits 255).toNat = n at h1
  unfold IntKind.wrap
  simp [IntKind.bits, IntKind.signed]
  omega
def bigB (code more : List Int) : Bool := decide ((1048576 : Int) < code.length) || decide ((1048576 : Int) - code.length < more.length)
end Go.M
